/- What functions' texts ask for, and the walks that show it (printed by a program). -/
import Derived.Test.YtfngfgiikpofgaaGKp1
namespace Go.Proofs.Ytfngfgiikpofgaa
/-- (*scan.Cursor).Next -/
def scan_Cursor_Next_v2_j1 (y3 : UInt8 × Bool) (o1 : (List UInt8) × Int) (f6 : Int) (r : UInt8 × Bool × ((List UInt8) × Int)) : Prop :=
  r = (y3.1, y3.2, (o1.1, f6))
def scan_Cursor_Next_v2_R (o1 : (List UInt8) × Int) (r : UInt8 × Bool × ((List UInt8) × Int)) : Prop :=
  ∃ y3 : UInt8 × Bool, scan_Cursor_Peek_v2_R o1 y3 ∧ ((y3.2 = true → InR (o1.2 + 1) ∧ scan_Cursor_Next_v2_j1 y3 o1 (o1.2 + 1) r) ∧ (¬ (y3.2 = true) → scan_Cursor_Next_v2_j1 y3 o1 o1.2 r))
set_option maxHeartbeats 4000000 in
theorem scan_Cursor_Next_v2_con (o1 : (List UInt8) × Int) (bx0 : Nat) (r : UInt8 × Bool × ((List UInt8) × Int)) (h : scan_Cursor_Next_v2_R o1 r) : Con Try.prog 19 [.v (.pointer (some ⟨bx0, 0, none⟩))] [⟨bx0, 45, [.sl 1 none (List.map eb o1.1), .v (.int .i64 o1.2)]⟩] [] (fun rr bx tk => rr = .tup [.v (.int .u8 ((r.1.toNat : Int))), .v (.bool r.2.1)] ∧ bx = [⟨bx0, 45, [.sl 1 none (List.map eb r.2.2.1), .v (.int .i64 r.2.2.2)]⟩] ∧ tk = []) := by
  refine xenter Try.func19 rfl rfl fun g hg => ?_
  simp only [Try.ntmps19, slots]
  refine xseq ?_
  refine xregion ?_
  refine xvalP (pv_assign rfl) rfl rfl ?_
  refine xvalP (pv_assign rfl) rfl rfl ?_
  refine xnil ?_
  refine xthen ?_
  refine xseq ?_
  refine xregion ?_
  refine xvalP (pv_move rfl) rfl rfl ?_
  obtain ⟨y3, h2, h⟩ := h
  refine xcallF (Fb := []) (Ft := []) (scan_Cursor_Peek_v2_con o1 bx0 _ h2) Try.func18 (by kernel_rfl) rfl (.cons rfl (.refl _) .nil) (by exact (SubM.of (by repeat (first | with_reducible exact SubB.refl _ | exact SubB.nil _ | refine SubB.keep rfl rfl (by first | with_reducible exact WkL.refl _ | ((repeat (first | exact WkL.nil | refine WkL.cons (by first | with_reducible exact Wk.refl _ | exact Wk.nil_own _ | exact Wk.nil_pl _ | with_reducible exact Wk.tok _ _ _ | exact Wk.tok _ _ _ | exact Wk.eq (by first | rfl | (simp []; done) | (simp []; omega))) ?_)); done) | exact WkL.refl _) ?_ | refine SubB.drop ?_)) (by repeat (first | exact SubT.nil _ | refine SubT.add ?_ | (refine SubT.keep ?_ ?_; focus (first | with_reducible rfl | (simp []; done))) | refine SubT.drop ?_)))) rfl rfl ?_
  rintro _ _ _ ⟨rfl, rfl, rfl⟩
  simp only [List.nil_append, List.cons_append]
  refine xvalP (pv_move rfl) rfl rfl ?_
  refine xvalP (pv_extract rfl rfl) rfl rfl ?_
  refine xvalP (pv_extract rfl rfl) rfl rfl ?_
  refine xvalP (pv_assign rfl) rfl rfl ?_
  refine xvalP (pv_assign rfl) rfl rfl ?_
  refine xnil ?_
  refine xthen ?_
  refine xseqM (fun σ => ∃ (f6 : Int), scan_Cursor_Next_v2_j1 y3 o1 f6 r ∧ σ = ⟨[(4, .v (.int .u8 ((y3.1.toNat : Int)))), (5, .v (.bool y3.2))], [⟨bx0, 45, [.sl 1 none (List.map eb o1.1), .v (.int .i64 f6)]⟩], []⟩) ?_ ?_
  · refine xseq ?_
    refine xregion ?_
    refine xvalP (pv_move rfl) rfl rfl ?_
    refine xnil ?_
    refine xthen ?_
    by_cases hp7 : y3.2 = true
    · replace h := h.1 hp7
      refine xcondT' hp7 rfl ?_
      refine xregion ?_
      refine xvalP (pv_move rfl) rfl rfl ?_
      refine xvalP (pv_nilCheck rfl) rfl rfl ?_
      refine xvalP (qv_fieldAddrB FldC.h rfl) rfl rfl ?_
      refine xval (qv_loadB 0 ShpC.h rfl rfl rfl rfl) rfl rfl ?_
      obtain ⟨h8, h⟩ := h
      refine xvalP (pv_addI h8 rfl rfl) rfl rfl ?_
      refine xvalP (pv_nilCheck rfl) rfl rfl ?_
      refine xvalP (qv_fieldAddrB FldC.h rfl) rfl rfl ?_
      refine xstore 0 ShpC.h rfl rfl rfl rfl rfl rfl rfl ?_
      refine xnil ?_
      exact xmeet ⟨(o1.2 + 1), h, rfl⟩ ⟨(.cons rfl (.refl _) (.cons rfl (.refl _) (.nil _))), (SubM.of (.keep rfl rfl (.refl _) (.nil _)) (.nil _))⟩
    · replace h := h.2 hp7
      refine xcondF' (b_f hp7) rfl ?_
      refine xskipc ?_
      exact xmeet ⟨o1.2, h, rfl⟩ ⟨(.cons rfl (.refl _) (.cons rfl (.refl _) (.nil _))), (SubM.of (.keep rfl rfl (.refl _) (.nil _)) (.nil _))⟩
  · clear h
    rintro _ ⟨f6, h, rfl⟩
    refine xseq ?_
    refine xregion ?_
    refine xvalP (pv_move rfl) rfl rfl ?_
    refine xvalP (pv_move rfl) rfl rfl ?_
    refine xvalP (pv_assign rfl) rfl rfl ?_
    refine xvalP (pv_assign rfl) rfl rfl ?_
    refine xnil ?_
    refine xthen ?_
    refine xretc ?_
    replace h := h.symm
    subst h
    exact xret2 hg rfl rfl (.eq rfl) rfl (.refl _) (SubM.of (.keep rfl rfl (.refl _) (.nil _)) (.nil _)) ⟨rfl, rfl, rfl⟩
/-- (*scan.Cursor).Rest -/
def scan_Cursor_Rest_v2_R (o1 : (List UInt8) × Int) (r : (List UInt8) × ((List UInt8) × Int)) : Prop :=
  ∃ y3 : (List UInt8) × ((List UInt8) × Int), scan_Cursor_while_v2_R o1 y3 ∧ ∃ y6 : UInt8 × Bool × ((List UInt8) × Int), scan_Cursor_Next_v2_R y3.2 y6 ∧ r = (y3.1, y6.2.2)
set_option maxHeartbeats 4000000 in
theorem scan_Cursor_Rest_v2_con (o1 : (List UInt8) × Int) (bx0 : Nat) (r : (List UInt8) × ((List UInt8) × Int)) (h : scan_Cursor_Rest_v2_R o1 r) : Con Try.prog 17 [.v (.pointer (some ⟨bx0, 0, none⟩))] [⟨bx0, 45, [.sl 1 none (List.map eb o1.1), .v (.int .i64 o1.2)]⟩] [] (fun rr bx tk => ∃ j1, rr = .sl 1 (some j1) (List.map eb r.1) ∧ bx = [⟨bx0, 45, [.sl 1 none (List.map eb r.2.1), .v (.int .i64 r.2.2)]⟩] ∧ tk = [⟨j1, 5, 1, r.1.length⟩]) := by
  refine xenter Try.func17 rfl rfl fun g hg => ?_
  simp only [Try.ntmps17, slots]
  refine xseq ?_
  refine xregion ?_
  refine xvalP (pv_assign rfl) rfl rfl ?_
  refine xnil ?_
  refine xthen ?_
  refine xseq ?_
  refine xregion ?_
  refine xvalP (pv_move rfl) rfl rfl ?_
  obtain ⟨y3, h2, h⟩ := h
  refine xcallF (Fb := []) (Ft := []) (scan_Cursor_while_v2_con o1 bx0 _ h2) Try.func27 (by kernel_rfl) rfl (.cons rfl (.refl _) (.cons rfl (.refl _) .nil)) (by exact (SubM.of (by repeat (first | with_reducible exact SubB.refl _ | exact SubB.nil _ | refine SubB.keep rfl rfl (by first | with_reducible exact WkL.refl _ | ((repeat (first | exact WkL.nil | refine WkL.cons (by first | with_reducible exact Wk.refl _ | exact Wk.nil_own _ | exact Wk.nil_pl _ | with_reducible exact Wk.tok _ _ _ | exact Wk.tok _ _ _ | exact Wk.eq (by first | rfl | (simp []; done) | (simp []; omega))) ?_)); done) | exact WkL.refl _) ?_ | refine SubB.drop ?_)) (by repeat (first | exact SubT.nil _ | refine SubT.add ?_ | (refine SubT.keep ?_ ?_; focus (first | with_reducible rfl | (simp []; done))) | refine SubT.drop ?_)))) rfl rfl ?_
  rintro _ _ _ ⟨i4, rfl, rfl, rfl⟩
  simp only [List.nil_append, List.cons_append]
  refine xvalP (pv_assign rfl) rfl rfl ?_
  refine xnil ?_
  refine xthen ?_
  refine xseq ?_
  refine xregion ?_
  refine xvalP (pv_move rfl) rfl rfl ?_
  obtain ⟨y6, h5, h⟩ := h
  refine xcallF (Fb := []) (Ft := [⟨i4, 5, 1, y3.1.length⟩]) (scan_Cursor_Next_v2_con y3.2 bx0 _ h5) Try.func19 (by kernel_rfl) rfl (.cons rfl (.refl _) .nil) (by exact (SubM.of (by repeat (first | with_reducible exact SubB.refl _ | exact SubB.nil _ | refine SubB.keep rfl rfl (by first | with_reducible exact WkL.refl _ | ((repeat (first | exact WkL.nil | refine WkL.cons (by first | with_reducible exact Wk.refl _ | exact Wk.nil_own _ | exact Wk.nil_pl _ | with_reducible exact Wk.tok _ _ _ | exact Wk.tok _ _ _ | exact Wk.eq (by first | rfl | (simp []; done) | (simp []; omega))) ?_)); done) | exact WkL.refl _) ?_ | refine SubB.drop ?_)) (by repeat (first | exact SubT.nil _ | refine SubT.add ?_ | (refine SubT.keep ?_ ?_; focus (first | with_reducible rfl | (simp []; done))) | refine SubT.drop ?_)))) rfl rfl ?_
  rintro _ _ _ ⟨rfl, rfl, rfl⟩
  simp only [List.nil_append, List.cons_append]
  refine xnil ?_
  refine xthen ?_
  refine xseq ?_
  refine xregion ?_
  refine xvalP (pv_move rfl) rfl rfl ?_
  refine xvalP (pv_assign rfl) rfl rfl ?_
  refine xnil ?_
  refine xthen ?_
  refine xretc ?_
  replace h := h.symm
  subst h
  exact xret1 hg rfl rfl (.refl _) (SubM.of (.keep rfl rfl (.refl _) (.nil _)) (.keep rfl (.nil _))) ⟨i4, rfl, rfl, rfl⟩
/-- (*scan.Cursor).Text -/
def scan_Cursor_Text_j1 (o1 : (List UInt8) × Int) (x215 : List UInt8) (x217 : Int) (r : (List UInt8) × Int × ((List UInt8) × Int)) : Prop :=
  InR (x217 + 1) ∧ Room (x215.length + ([(10 : UInt8)]).length) 1 ∧ r = ((x215 ++ [(10 : UInt8)]), 0, (o1.1, (if (o1.1.length : Int) < (x217 + 1) then (o1.1.length : Int) else (x217 + 1))))
def scan_Cursor_Text_j3 (o1 : (List UInt8) × Int) (x287 : List UInt8) (ag2 : ((List UInt8) × Int) → Prop) (x414 : Int) (r : (List UInt8) × Int × ((List UInt8) × Int)) : Prop :=
  0 ≤ (x414 : Int) ∧ ∃ y423 : UInt8, o1.1[(x414 : Int).toNat]? = some y423 ∧ Room (x287.length + ([y423]).length) 1 ∧ InR (x414 + 1) ∧ ag2 ((x287 ++ [y423]), (x414 + 1))
def scan_Cursor_Text_l2 (o1 : (List UInt8) × Int) (ag2 : ((List UInt8) × Int) → Prop) (x287 : List UInt8) (x289 : Int) (r : (List UInt8) × Int × ((List UInt8) × Int)) : Prop :=
  ((x289 < (o1.1.length : Int) → 0 ≤ (x289 : Int) ∧ ∃ y381 : UInt8, o1.1[(x289 : Int).toNat]? = some y381 ∧ ((¬ ((y381.toNat : Int) = 10) → 0 ≤ (x289 : Int) ∧ ∃ y415 : UInt8, o1.1[(x289 : Int).toNat]? = some y415 ∧ (((y415.toNat : Int) = 92 → InR (x289 + 1) ∧ (((x289 + 1) = (o1.1.length : Int) → r = (([] : List UInt8), 10, (o1.1, o1.2))) ∧ (¬ ((x289 + 1) = (o1.1.length : Int)) → scan_Cursor_Text_j3 o1 x287 ag2 (x289 + 1) r))) ∧ (¬ ((y415.toNat : Int) = 92) → scan_Cursor_Text_j3 o1 x287 ag2 x289 r))) ∧ (¬ (¬ ((y381.toNat : Int) = 10)) → scan_Cursor_Text_j1 o1 x287 x289 r))) ∧ (¬ (x289 < (o1.1.length : Int)) → scan_Cursor_Text_j1 o1 x287 x289 r))
def scan_Cursor_Text_R (o1 : (List UInt8) × Int) (r : (List UInt8) × Int × ((List UInt8) × Int)) : Prop :=
  LoopR (fun ag2 s => scan_Cursor_Text_l2 o1 ag2 s.1 s.2 r) (([] : List UInt8), o1.2)
set_option maxHeartbeats 4000000 in
theorem scan_Cursor_Text_con (o1 : (List UInt8) × Int) (bx0 : Nat) (ia2 : Option (Nat × Nat)) (r : (List UInt8) × Int × ((List UInt8) × Int)) (h : scan_Cursor_Text_R o1 r) : Con Try.prog 15 [.v (.pointer (some ⟨bx0, 0, none⟩))] [⟨bx0, 45, [.sl 1 (some ia2) (List.map eb o1.1), .v (.int .i64 o1.2)]⟩] [⟨ia2, 5, 1, o1.1.length⟩] (fun rr bx tk => ∃ j1, ∃ j2, rr = .tup [.sl 1 (some j1) (List.map eb r.1), .v (.int .i64 r.2.1)] ∧ bx = [⟨bx0, 45, [.sl 1 (some j2) (List.map eb r.2.2.1), .v (.int .i64 r.2.2.2)]⟩] ∧ tk = [⟨j1, 5, 1, r.1.length⟩, ⟨j2, 5, 1, r.2.2.1.length⟩]) := by
  refine xenter Try.func15 rfl rfl fun g hg => ?_
  simp only [Try.ntmps15, slots]
  refine xseq ?_
  refine xregion ?_
  refine xvalP (pv_assign rfl) rfl rfl ?_
  refine xvalP (pv_assign rfl) rfl rfl ?_
  refine xnil ?_
  refine xthen ?_
  refine xseq ?_
  refine xseq ?_
  refine xregion ?_
  refine xvalP (pv_move rfl) rfl rfl ?_
  refine xvalP (pv_eqNil UndC.h rfl rfl) rfl rfl ?_
  refine xnil ?_
  refine xthen ?_
  refine xcondF rfl ?_
  refine xskipc ?_
  refine xthen ?_
  refine xseq ?_
  refine xregion ?_
  refine xvalP (pv_assign rfl) rfl rfl ?_
  refine xnil ?_
  refine xthen ?_
  refine xseq ?_
  refine xregion ?_
  refine xvalP (pv_move rfl) rfl rfl ?_
  refine xvalP (pv_nilCheck rfl) rfl rfl ?_
  refine xvalP (qv_fieldAddrB FldC.h rfl) rfl rfl ?_
  refine xval (qv_loadB 0 ShpC.h rfl rfl rfl rfl) rfl rfl ?_
  refine xvalP (pv_assign rfl) rfl rfl ?_
  refine xnil ?_
  refine xthen ?_
  refine xseqM (fun σ => ∃ (x215 : List UInt8), ∃ (x217 : Int), ∃ (i216 : Option (Nat × Nat)), scan_Cursor_Text_j1 o1 x215 x217 r ∧ σ = ⟨[(0, .v (.pointer (some ⟨bx0, 0, none⟩))), (4, .sl 1 (some i216) (List.map eb x215)), (5, .v (.int .i64 x217))], [⟨bx0, 45, [.sl 1 (some ia2) (List.map eb o1.1), .v (.int .i64 o1.2)]⟩], [⟨i216, 5, 1, x215.length⟩, ⟨ia2, 5, 1, o1.1.length⟩]⟩) ?_ ?_
  · refine xblock ?_
    obtain ⟨Inv, ⟨m0, hI⟩, hS⟩ := h
    refine xloop (fun σ m => ∃ (x287 : List UInt8), ∃ (x289 : Int), ∃ (i288 : Option (Nat × Nat)), Inv (x287, x289) m ∧ σ = ⟨[(0, .v (.pointer (some ⟨bx0, 0, none⟩))), (4, .sl 1 (some i288) (List.map eb x287)), (5, .v (.int .i64 x289))], [⟨bx0, 45, [.sl 1 (some ia2) (List.map eb o1.1), .v (.int .i64 o1.2)]⟩], [⟨i288, 5, 1, x287.length⟩, ⟨ia2, 5, 1, o1.1.length⟩]⟩) ⟨([] : List UInt8), o1.2, none, hI, rfl⟩ ⟨(.cons rfl (.refl _) (.cons rfl (.nil_own _) (.cons rfl (.refl _) (.nil _)))), (SubM.of (.keep rfl rfl (.refl _) (.nil _)) (.add (.keep rfl (.nil _))))⟩ ?_
    rintro _ m ⟨x287, x289, i288, hI, rfl⟩
    obtain ⟨ag2, hag2, h⟩ : ∃ ag, (∀ s', ag s' → ∃ m', m' < m ∧ Inv s' m') ∧ scan_Cursor_Text_l2 o1 ag x287 x289 r := ⟨_, fun _ h => h, hS (x287, x289) _ hI⟩
    clear hS hI
    refine xseq ?_
    refine xseq ?_
    refine xregion ?_
    refine xvalP (pv_move rfl) rfl rfl ?_
    refine xvalP (pv_move rfl) rfl rfl ?_
    refine xvalP (pv_nilCheck rfl) rfl rfl ?_
    refine xvalP (qv_fieldAddrB FldC.h rfl) rfl rfl ?_
    refine xval (qv_loadB 0 ShpC.h rfl rfl rfl rfl) rfl rfl ?_
    refine xvalP (pv_lenM UndC.h rfl) rfl rfl ?_
    refine xvalP (pv_bin2 rfl rfl rfl) rfl rfl ?_
    refine xvalP (pv_move rfl) rfl rfl ?_
    by_cases hp380 : x289 < (o1.1.length : Int)
    · replace h := h.1 hp380
      refine xsetB 19 (decide_eq_true hp380) rfl ?_
      refine xvalP (pv_move rfl) rfl rfl ?_
      refine xvalP (pv_nilCheck rfl) rfl rfl ?_
      refine xvalP (qv_fieldAddrB FldC.h rfl) rfl rfl ?_
      refine xval (qv_loadB 0 ShpC.h rfl rfl rfl rfl) rfl rfl ?_
      refine xvalP (pv_move rfl) rfl rfl ?_
      obtain ⟨h382a, h⟩ := h
      obtain ⟨y381, h382b, h⟩ := h
      refine xvalP (pv_indexAddrM h382a h382b UndC.h ShpC.h rfl rfl) rfl rfl ?_
      refine xval (qv_load ShpC.h rfl rfl rfl) rfl rfl ?_
      refine xvalP (pv_bin2 rfl rfl rfl) rfl rfl ?_
      refine xvalP (pv_pick rfl rfl) rfl rfl ?_
      refine xnil ?_
      refine xthen ?_
      by_cases hp384 : ¬ ((y381.toNat : Int) = 10)
      · replace h := h.1 hp384
        refine xcondT' (not_t (decide_eq_false hp384)) rfl ?_
        refine xskipc ?_
        refine xthen ?_
        refine xseq ?_
        refine xblock ?_
        refine xseqM (fun σ => ∃ (x414 : Int), scan_Cursor_Text_j3 o1 x287 ag2 x414 r ∧ σ = ⟨[(0, .v (.pointer (some ⟨bx0, 0, none⟩))), (4, .sl 1 (some i288) (List.map eb x287)), (5, .v (.int .i64 x414)), (20, .v (.pointer (some ⟨bx0, 0, none⟩))), (21, .v (.pointer (some ⟨bx0, 0, none⟩))), (22, .v (.pointer (some ⟨bx0, 0, none⟩))), (23, .sl 1 (some ia2) (List.map eb o1.1)), (24, .v (.int .i64 x289)), (25, .el [.v (.int .u8 ((y381.toNat : Int)))]), (26, .v (.int .u8 ((y381.toNat : Int)))), (27, .v (.bool (!(decide ((y381.toNat : Int) = 10)))))], [⟨bx0, 45, [.sl 1 (some ia2) (List.map eb o1.1), .v (.int .i64 o1.2)]⟩], [⟨i288, 5, 1, x287.length⟩, ⟨ia2, 5, 1, o1.1.length⟩]⟩) ?_ ?_
        · refine xseq ?_
          refine xregion ?_
          refine xvalP (pv_move rfl) rfl rfl ?_
          refine xvalP (pv_nilCheck rfl) rfl rfl ?_
          refine xvalP (qv_fieldAddrB FldC.h rfl) rfl rfl ?_
          refine xval (qv_loadB 0 ShpC.h rfl rfl rfl rfl) rfl rfl ?_
          refine xvalP (pv_move rfl) rfl rfl ?_
          obtain ⟨h416a, h⟩ := h
          obtain ⟨y415, h416b, h⟩ := h
          refine xvalP (pv_indexAddrM h416a h416b UndC.h ShpC.h rfl rfl) rfl rfl ?_
          refine xval (qv_load ShpC.h rfl rfl rfl) rfl rfl ?_
          refine xvalP (pv_bin2 rfl rfl rfl) rfl rfl ?_
          refine xnil ?_
          refine xthen ?_
          by_cases hp418 : (y415.toNat : Int) = 92
          · replace h := h.1 hp418
            refine xcondT' (decide_eq_true hp418) rfl ?_
            refine xseq ?_
            refine xregion ?_
            refine xvalP (pv_move rfl) rfl rfl ?_
            obtain ⟨h419, h⟩ := h
            refine xvalP (pv_addI h419 rfl rfl) rfl rfl ?_
            refine xvalP (pv_assign rfl) rfl rfl ?_
            refine xnil ?_
            refine xthen ?_
            refine xseq ?_
            refine xregion ?_
            refine xvalP (pv_move rfl) rfl rfl ?_
            refine xvalP (pv_move rfl) rfl rfl ?_
            refine xvalP (pv_nilCheck rfl) rfl rfl ?_
            refine xvalP (qv_fieldAddrB FldC.h rfl) rfl rfl ?_
            refine xval (qv_loadB 0 ShpC.h rfl rfl rfl rfl) rfl rfl ?_
            refine xvalP (pv_lenM UndC.h rfl) rfl rfl ?_
            refine xvalP (pv_bin2 rfl rfl rfl) rfl rfl ?_
            refine xnil ?_
            refine xthen ?_
            by_cases hp422 : (x289 + 1) = (o1.1.length : Int)
            · replace h := h.1 hp422
              refine xcondT' (decide_eq_true hp422) rfl ?_
              refine xseq ?_
              refine xregion ?_
              refine xvalP (pv_assign rfl) rfl rfl ?_
              refine xvalP (pv_assign rfl) rfl rfl ?_
              refine xnil ?_
              refine xthen ?_
              refine xretc ?_
              refine xthen_ret ?_
              refine xin_ret ?_
              refine xthen_ret ?_
              refine xthen_ret ?_
              refine xin_ret ?_
              refine xthen_ret ?_
              replace h := h.symm
              subst h
              exact xret2 hg rfl rfl (.nil_own _) rfl (.refl _) (SubM.of (by repeat (first | with_reducible exact SubB.refl _ | exact SubB.nil _ | refine SubB.keep rfl rfl (by first | with_reducible exact WkL.refl _ | ((repeat (first | exact WkL.nil | refine WkL.cons (by first | with_reducible exact Wk.refl _ | exact Wk.nil_own _ | exact Wk.nil_pl _ | with_reducible exact Wk.tok _ _ _ | exact Wk.tok _ _ _ | exact Wk.eq (by first | rfl | (simp []; done) | (simp []; omega))) ?_)); done) | exact WkL.refl _) ?_ | refine SubB.drop ?_)) (by repeat (first | exact SubT.nil _ | refine SubT.add ?_ | (refine SubT.keep ?_ ?_; focus (first | with_reducible rfl | (simp []; done))) | refine SubT.drop ?_))) ⟨none, ia2, rfl, rfl, rfl⟩
            · replace h := h.2 hp422
              refine xcondF' (decide_eq_false hp422) rfl ?_
              refine xskipc ?_
              exact xmeet ⟨(x289 + 1), h, rfl⟩ ⟨(.cons rfl (.refl _) (.cons rfl (.refl _) (.cons rfl (.refl _) (.cons rfl (.refl _) (.cons rfl (.refl _) (.cons rfl (.refl _) (.cons rfl (.refl _) (.cons rfl (.refl _) (.cons rfl (.refl _) (.cons rfl (.refl _) (.cons rfl (.refl _) (.nil _)))))))))))), (SubM.of (.keep rfl rfl (.refl _) (.nil _)) (.keep rfl (.keep rfl (.nil _))))⟩
          · replace h := h.2 hp418
            refine xcondF' (decide_eq_false hp418) rfl ?_
            refine xskipc ?_
            exact xmeet ⟨x289, h, rfl⟩ ⟨(.cons rfl (.refl _) (.cons rfl (.refl _) (.cons rfl (.refl _) (.cons rfl (.refl _) (.cons rfl (.refl _) (.cons rfl (.refl _) (.cons rfl (.refl _) (.cons rfl (.refl _) (.cons rfl (.refl _) (.cons rfl (.refl _) (.cons rfl (.refl _) (.nil _)))))))))))), (SubM.of (.keep rfl rfl (.refl _) (.nil _)) (.keep rfl (.keep rfl (.nil _))))⟩
        · clear h
          rintro _ ⟨x414, h, rfl⟩
          refine xregion ?_
          refine xvalP (pv_move rfl) rfl rfl ?_
          refine xvalP (pv_move rfl) rfl rfl ?_
          refine xvalP (pv_nilCheck rfl) rfl rfl ?_
          refine xvalP (qv_fieldAddrB FldC.h rfl) rfl rfl ?_
          refine xval (qv_loadB 0 ShpC.h rfl rfl rfl rfl) rfl rfl ?_
          refine xvalP (pv_move rfl) rfl rfl ?_
          obtain ⟨h424a, h⟩ := h
          obtain ⟨y423, h424b, h⟩ := h
          refine xvalP (pv_indexAddrM h424a h424b UndC.h ShpC.h rfl rfl) rfl rfl ?_
          refine xval (qv_load ShpC.h rfl rfl rfl) rfl rfl ?_
          refine xbuildSliceM (f := eb) [y423] UndC.h InfC.h rfl rfl (by first | exact wkR_of rfl | (repeat (first | exact WkR.nil | refine WkR.cons (by (repeat (first | exact WkL.nil | refine WkL.cons (by first | with_reducible exact Wk.refl _ | exact Wk.nil_own _ | exact Wk.nil_pl _ | with_reducible exact Wk.tok _ _ _ | exact Wk.tok _ _ _ | exact Wk.eq (by first | rfl | (simp []; done) | (simp []; omega))) ?_))) ?_))) rfl rfl rfl rfl fun s56 => ?_
          obtain ⟨h425, h⟩ := h
          refine xappendM (l := x287) (l2 := [y423]) 1 h425 UndC.h InfC.h rfl rfl rfl (.refl _) rfl rfl rfl fun i426 => ?_
          refine xvalP (pv_assign rfl) rfl rfl ?_
          refine xnil ?_
          refine xin_normal ?_
          refine xthen ?_
          refine xregion ?_
          refine xvalP (pv_move rfl) rfl rfl ?_
          obtain ⟨h427, h⟩ := h
          refine xvalP (pv_addI h427 rfl rfl) rfl rfl ?_
          refine xvalP (pv_assign rfl) rfl rfl ?_
          refine xnil ?_
          obtain ⟨m', hm, hI⟩ := hag2 _ h
          exact xagain ⟨(x287 ++ [y423]), (x414 + 1), i426, hI, rfl⟩ hm ⟨(.cons rfl (.refl _) (.cons rfl (.refl _) (.cons rfl (.refl _) (.nil _)))), (SubM.of (.keep rfl rfl (.refl _) (.nil _)) (.drop (.keep rfl (.keep rfl (.nil _)))))⟩
      · replace h := h.2 hp384
        refine xcondF' (not_f (decide_eq_true (Decidable.of_not_not hp384))) rfl ?_
        refine xexit ?_
        refine xthen_exit ?_
        refine xthen_exit ?_
        refine xin_same rfl ?_
        exact xmeet ⟨x287, x289, i288, h, rfl⟩ ⟨(.cons rfl (.refl _) (.cons rfl (.refl _) (.cons rfl (.refl _) (.nil _)))), (SubM.of (.keep rfl rfl (.refl _) (.nil _)) (.keep rfl (.keep rfl (.nil _))))⟩
    · replace h := h.2 hp380
      refine xsetB 19 (decide_eq_false hp380) rfl ?_
      refine xskip rfl rfl ?_
      refine xskip rfl rfl ?_
      refine xskip rfl rfl ?_
      refine xskip rfl rfl ?_
      refine xskip rfl rfl ?_
      refine xskip rfl rfl ?_
      refine xskip rfl rfl ?_
      refine xskip rfl rfl ?_
      refine xvalP (pv_pick rfl rfl) rfl rfl ?_
      refine xnil ?_
      refine xthen ?_
      refine xcondF rfl ?_
      refine xexit ?_
      refine xthen_exit ?_
      refine xthen_exit ?_
      refine xin_same rfl ?_
      exact xmeet ⟨x287, x289, i288, h, rfl⟩ ⟨(.cons rfl (.refl _) (.cons rfl (.refl _) (.cons rfl (.refl _) (.nil _)))), (SubM.of (.keep rfl rfl (.refl _) (.nil _)) (.keep rfl (.keep rfl (.nil _))))⟩
  · clear h
    rintro _ ⟨x215, x217, i216, h, rfl⟩
    refine xseq ?_
    refine xregion ?_
    refine xvalP (pv_move rfl) rfl rfl ?_
    refine xvalP (pv_move rfl) rfl rfl ?_
    obtain ⟨h428, h⟩ := h
    refine xvalP (pv_addI h428 rfl rfl) rfl rfl ?_
    refine xvalP (pv_move rfl) rfl rfl ?_
    refine xvalP (pv_nilCheck rfl) rfl rfl ?_
    refine xvalP (qv_fieldAddrB FldC.h rfl) rfl rfl ?_
    refine xval (qv_loadB 0 ShpC.h rfl rfl rfl rfl) rfl rfl ?_
    refine xvalP (pv_lenM UndC.h rfl) rfl rfl ?_
    refine xvalP (pv_min rfl rfl) rfl rfl ?_
    refine xvalP (pv_nilCheck rfl) rfl rfl ?_
    refine xvalP (qv_fieldAddrB FldC.h rfl) rfl rfl ?_
    refine xstore 0 ShpC.h rfl rfl rfl rfl rfl rfl rfl ?_
    refine xnil ?_
    refine xthen ?_
    refine xseq ?_
    refine xregion ?_
    refine xvalP (pv_move rfl) rfl rfl ?_
    refine xbuildSliceM (f := eb) [(10 : UInt8)] UndC.h InfC.h rfl rfl (by first | exact wkR_of rfl | (repeat (first | exact WkR.nil | refine WkR.cons (by (repeat (first | exact WkL.nil | refine WkL.cons (by first | with_reducible exact Wk.refl _ | exact Wk.nil_own _ | exact Wk.nil_pl _ | with_reducible exact Wk.tok _ _ _ | exact Wk.tok _ _ _ | exact Wk.eq (by first | rfl | (simp []; done) | (simp []; omega))) ?_))) ?_))) rfl rfl rfl rfl fun s70 => ?_
    obtain ⟨h431, h⟩ := h
    refine xappendM (l := x215) (l2 := [(10 : UInt8)]) 1 h431 UndC.h InfC.h rfl rfl rfl (.refl _) rfl rfl rfl fun i432 => ?_
    refine xvalP (pv_assign rfl) rfl rfl ?_
    refine xvalP (pv_assign rfl) rfl rfl ?_
    refine xnil ?_
    refine xthen ?_
    refine xretc ?_
    replace h := h.symm
    subst h
    exact xret2 hg rfl rfl (.refl _) rfl (.refl _) (SubM.of (.keep rfl rfl (.refl _) (.nil _)) (.drop (.keep rfl (.keep rfl (.nil _))))) ⟨i432, ia2, rfl, rfl, rfl⟩
/-- (*scan.Cursor).Peek -/
def scan_Cursor_Peek_v3_R (r : UInt8 × Bool) : Prop :=
  r = ((0 : UInt8), false)
set_option maxHeartbeats 4000000 in
theorem scan_Cursor_Peek_v3_con (r : UInt8 × Bool) (h : scan_Cursor_Peek_v3_R r) : Con Try.prog 18 [.v (.pointer none)] [] [] (fun rr bx tk => rr = .tup [.v (.int .u8 ((r.1.toNat : Int))), .v (.bool r.2)] ∧ bx = [] ∧ tk = []) := by
  refine xenter Try.func18 rfl rfl fun g hg => ?_
  simp only [Try.ntmps18, slots]
  refine xseq ?_
  refine xregion ?_
  refine xvalP (pv_assign rfl) rfl rfl ?_
  refine xvalP (pv_assign rfl) rfl rfl ?_
  refine xnil ?_
  refine xthen ?_
  refine xseq ?_
  refine xseq ?_
  refine xregionD (m := 14) (by kernel_rfl) rfl ?_
  refine xpval 0 rfl (pv_move rfl) rfl rfl (by kernel_rfl) (by kernel_rfl) (by kernel_rfl) (fun _ _ _ _ h => h) ?_
  refine xpval 1 rfl (pv_eqNilN UndC.h rfl rfl) rfl rfl (by kernel_rfl) (by kernel_rfl) (by kernel_rfl) (fun _ _ _ _ h => h) ?_
  refine xpval 2 rfl (pv_move rfl) rfl rfl (by kernel_rfl) (by kernel_rfl) (by kernel_rfl) (fun _ _ _ _ h => h) ?_
  refine xpskip 3 rfl rfl rfl (by kernel_rfl) (by kernel_rfl) (by kernel_rfl) (fun _ _ _ _ h => h) ?_
  refine xpskip 4 rfl rfl rfl (by kernel_rfl) (by kernel_rfl) (by kernel_rfl) (fun _ _ _ _ h => h) ?_
  refine xpskip 5 rfl rfl rfl (by kernel_rfl) (by kernel_rfl) (by kernel_rfl) (fun _ _ _ _ h => h) ?_
  refine xpskip 6 rfl rfl rfl (by kernel_rfl) (by kernel_rfl) (by kernel_rfl) (fun _ _ _ _ h => h) ?_
  refine xpskip 7 rfl rfl rfl (by kernel_rfl) (by kernel_rfl) (by kernel_rfl) (fun _ _ _ _ h => h) ?_
  refine xpskip 8 rfl rfl rfl (by kernel_rfl) (by kernel_rfl) (by kernel_rfl) (fun _ _ _ _ h => h) ?_
  refine xpskip 9 rfl rfl rfl (by kernel_rfl) (by kernel_rfl) (by kernel_rfl) (fun _ _ _ _ h => h) ?_
  refine xpskip 10 rfl rfl rfl (by kernel_rfl) (by kernel_rfl) (by kernel_rfl) (fun _ _ _ _ h => h) ?_
  refine xpskip 11 rfl rfl rfl (by kernel_rfl) (by kernel_rfl) (by kernel_rfl) (fun _ _ _ _ h => h) ?_
  refine xpskip 12 rfl rfl rfl (by kernel_rfl) (by kernel_rfl) (by kernel_rfl) (fun _ _ _ _ h => h) ?_
  refine xpval 13 rfl (pv_pick rfl rfl) rfl rfl (by kernel_rfl) (by kernel_rfl) (by kernel_rfl) (fun _ _ _ _ h => h) ?_
  refine xpdone (by kernel_rfl) ?_
  refine xthen ?_
  refine xcondT rfl ?_
  refine xseq ?_
  refine xregion ?_
  refine xvalP (pv_assign rfl) rfl rfl ?_
  refine xvalP (pv_assign rfl) rfl rfl ?_
  refine xnil ?_
  refine xthen ?_
  refine xretc ?_
  refine xthen_ret ?_
  replace h := h.symm
  subst h
  exact xret2 hg rfl rfl (.eq rfl) rfl (.refl _) (SubM.of (.nil _) (.nil _)) ⟨rfl, rfl, rfl⟩
/-- (*scan.Cursor).Next -/
def scan_Cursor_Next_v3_R (r : UInt8 × Bool) : Prop :=
  ∃ y2 : UInt8 × Bool, scan_Cursor_Peek_v3_R y2 ∧ ((y2.2 = true → False) ∧ (¬ (y2.2 = true) → r = (y2.1, y2.2)))
set_option maxHeartbeats 4000000 in
theorem scan_Cursor_Next_v3_con (r : UInt8 × Bool) (h : scan_Cursor_Next_v3_R r) : Con Try.prog 19 [.v (.pointer none)] [] [] (fun rr bx tk => rr = .tup [.v (.int .u8 ((r.1.toNat : Int))), .v (.bool r.2)] ∧ bx = [] ∧ tk = []) := by
  refine xenter Try.func19 rfl rfl fun g hg => ?_
  simp only [Try.ntmps19, slots]
  refine xseq ?_
  refine xregion ?_
  refine xvalP (pv_assign rfl) rfl rfl ?_
  refine xvalP (pv_assign rfl) rfl rfl ?_
  refine xnil ?_
  refine xthen ?_
  refine xseq ?_
  refine xregion ?_
  refine xvalP (pv_move rfl) rfl rfl ?_
  obtain ⟨y2, h1, h⟩ := h
  refine xcallF (Fb := []) (Ft := []) (scan_Cursor_Peek_v3_con _ h1) Try.func18 (by kernel_rfl) rfl (.cons rfl (.refl _) .nil) (by exact (SubM.of (by repeat (first | with_reducible exact SubB.refl _ | exact SubB.nil _ | refine SubB.keep rfl rfl (by first | with_reducible exact WkL.refl _ | ((repeat (first | exact WkL.nil | refine WkL.cons (by first | with_reducible exact Wk.refl _ | exact Wk.nil_own _ | exact Wk.nil_pl _ | with_reducible exact Wk.tok _ _ _ | exact Wk.tok _ _ _ | exact Wk.eq (by first | rfl | (simp []; done) | (simp []; omega))) ?_)); done) | exact WkL.refl _) ?_ | refine SubB.drop ?_)) (by repeat (first | exact SubT.nil _ | refine SubT.add ?_ | (refine SubT.keep ?_ ?_; focus (first | with_reducible rfl | (simp []; done))) | refine SubT.drop ?_)))) rfl rfl ?_
  rintro _ _ _ ⟨rfl, rfl, rfl⟩
  simp only [List.nil_append, List.cons_append]
  refine xvalP (pv_move rfl) rfl rfl ?_
  refine xvalP (pv_extract rfl rfl) rfl rfl ?_
  refine xvalP (pv_extract rfl rfl) rfl rfl ?_
  refine xvalP (pv_assign rfl) rfl rfl ?_
  refine xvalP (pv_assign rfl) rfl rfl ?_
  refine xnil ?_
  refine xthen ?_
  refine xseq ?_
  refine xseq ?_
  refine xregion ?_
  refine xvalP (pv_move rfl) rfl rfl ?_
  refine xnil ?_
  refine xthen ?_
  by_cases hp4 : y2.2 = true
  · replace h := h.1 hp4
    refine xcondT' hp4 rfl ?_
    refine xregion ?_
    refine xvalP (pv_move rfl) rfl rfl ?_
    exact h.elim
  · replace h := h.2 hp4
    refine xcondF' (b_f hp4) rfl ?_
    refine xskipc ?_
    refine xthen ?_
    refine xseq ?_
    refine xregion ?_
    refine xvalP (pv_move rfl) rfl rfl ?_
    refine xvalP (pv_move rfl) rfl rfl ?_
    refine xvalP (pv_assign rfl) rfl rfl ?_
    refine xvalP (pv_assign rfl) rfl rfl ?_
    refine xnil ?_
    refine xthen ?_
    refine xretc ?_
    replace h := h.symm
    subst h
    exact xret2 hg rfl rfl (.eq rfl) rfl (.refl _) (SubM.of (.nil _) (.nil _)) ⟨rfl, rfl, rfl⟩
/-- (*scan.Cursor).Num -/
def scan_Cursor_Num_R (most1 : Int) (r : Int × Int) : Prop :=
  r = (0, 1)
set_option maxHeartbeats 4000000 in
theorem scan_Cursor_Num_con (most1 : Int) (r : Int × Int) (h : scan_Cursor_Num_R most1 r) : Con Try.prog 20 [.v (.pointer none), .v (.int .i64 most1)] [] [] (fun rr bx tk => rr = .tup [.v (.int .i64 r.1), .v (.int .i64 r.2)] ∧ bx = [] ∧ tk = []) := by
  refine xenter Try.func20 rfl rfl fun g hg => ?_
  simp only [Try.ntmps20, slots]
  refine xseq ?_
  refine xregion ?_
  refine xvalP (pv_assign rfl) rfl rfl ?_
  refine xvalP (pv_assign rfl) rfl rfl ?_
  refine xnil ?_
  refine xthen ?_
  refine xseq ?_
  refine xseq ?_
  refine xregion ?_
  refine xvalP (pv_move rfl) rfl rfl ?_
  refine xvalP (pv_eqNilN UndC.h rfl rfl) rfl rfl ?_
  refine xnil ?_
  refine xthen ?_
  refine xcondT rfl ?_
  refine xseq ?_
  refine xregion ?_
  refine xvalP (pv_assign rfl) rfl rfl ?_
  refine xvalP (pv_assign rfl) rfl rfl ?_
  refine xnil ?_
  refine xthen ?_
  refine xretc ?_
  refine xthen_ret ?_
  replace h := h.symm
  subst h
  exact xret2 hg rfl rfl (.refl _) rfl (.refl _) (SubM.of (.nil _) (.nil _)) ⟨rfl, rfl, rfl⟩
/-- (*scan.Cursor).Until -/
def scan_Cursor_Until_v2_R (x1 : UInt8) (r : (List UInt8) × Int) : Prop :=
  r = (([] : List UInt8), 1)
set_option maxHeartbeats 4000000 in
theorem scan_Cursor_Until_v2_con (x1 : UInt8) (r : (List UInt8) × Int) (h : scan_Cursor_Until_v2_R x1 r) : Con Try.prog 8 [.v (.pointer none), .v (.int .u8 ((x1.toNat : Int)))] [] [] (fun rr bx tk => rr = .tup [.sl 1 none (List.map eb r.1), .v (.int .i64 r.2)] ∧ bx = [] ∧ tk = []) := by
  refine xenter Try.func8 rfl rfl fun g hg => ?_
  simp only [Try.ntmps8, slots]
  refine xseq ?_
  refine xregion ?_
  refine xvalP (pv_assign rfl) rfl rfl ?_
  refine xvalP (pv_assign rfl) rfl rfl ?_
  refine xnil ?_
  refine xthen ?_
  refine xseq ?_
  refine xseq ?_
  refine xregion ?_
  refine xvalP (pv_move rfl) rfl rfl ?_
  refine xvalP (pv_eqNilN UndC.h rfl rfl) rfl rfl ?_
  refine xnil ?_
  refine xthen ?_
  refine xcondT rfl ?_
  refine xseq ?_
  refine xregion ?_
  refine xvalP (pv_assign rfl) rfl rfl ?_
  refine xvalP (pv_assign rfl) rfl rfl ?_
  refine xnil ?_
  refine xthen ?_
  refine xretc ?_
  refine xthen_ret ?_
  replace h := h.symm
  subst h
  exact xret2 hg rfl rfl (.nil_pl _) rfl (.refl _) (SubM.of (.nil _) (.nil _)) ⟨rfl, rfl, rfl⟩
/-- (*scan.Cursor).Text -/
def scan_Cursor_Text_v2_R (r : (List UInt8) × Int) : Prop :=
  r = (([] : List UInt8), 1)
set_option maxHeartbeats 4000000 in
theorem scan_Cursor_Text_v2_con (r : (List UInt8) × Int) (h : scan_Cursor_Text_v2_R r) : Con Try.prog 15 [.v (.pointer none)] [] [] (fun rr bx tk => rr = .tup [.sl 1 none (List.map eb r.1), .v (.int .i64 r.2)] ∧ bx = [] ∧ tk = []) := by
  refine xenter Try.func15 rfl rfl fun g hg => ?_
  simp only [Try.ntmps15, slots]
  refine xseq ?_
  refine xregion ?_
  refine xvalP (pv_assign rfl) rfl rfl ?_
  refine xvalP (pv_assign rfl) rfl rfl ?_
  refine xnil ?_
  refine xthen ?_
  refine xseq ?_
  refine xseq ?_
  refine xregion ?_
  refine xvalP (pv_move rfl) rfl rfl ?_
  refine xvalP (pv_eqNilN UndC.h rfl rfl) rfl rfl ?_
  refine xnil ?_
  refine xthen ?_
  refine xcondT rfl ?_
  refine xseq ?_
  refine xregion ?_
  refine xvalP (pv_assign rfl) rfl rfl ?_
  refine xvalP (pv_assign rfl) rfl rfl ?_
  refine xnil ?_
  refine xthen ?_
  refine xretc ?_
  refine xthen_ret ?_
  replace h := h.symm
  subst h
  exact xret2 hg rfl rfl (.nil_pl _) rfl (.refl _) (SubM.of (.nil _) (.nil _)) ⟨rfl, rfl, rfl⟩
/-- (*scan.Cursor).At -/
def scan_Cursor_At_v3_R (r : Int) : Prop :=
  r = 0
set_option maxHeartbeats 4000000 in
theorem scan_Cursor_At_v3_con (r : Int) (h : scan_Cursor_At_v3_R r) : Con Try.prog 11 [.v (.pointer none)] [] [] (Ret (.v (.int .i64 r))) := by
  refine xenter Try.func11 rfl rfl fun g hg => ?_
  simp only [Try.ntmps11, slots]
  refine xseq ?_
  refine xregion ?_
  refine xvalP (pv_assign rfl) rfl rfl ?_
  refine xnil ?_
  refine xthen ?_
  refine xseq ?_
  refine xseq ?_
  refine xregion ?_
  refine xvalP (pv_move rfl) rfl rfl ?_
  refine xvalP (pv_eqNilN UndC.h rfl rfl) rfl rfl ?_
  refine xnil ?_
  refine xthen ?_
  refine xcondT rfl ?_
  refine xseq ?_
  refine xregion ?_
  refine xvalP (pv_assign rfl) rfl rfl ?_
  refine xnil ?_
  refine xthen ?_
  refine xretc ?_
  refine xthen_ret ?_
  replace h := h.symm
  subst h
  exact xret1 hg rfl rfl (.refl _) (SubM.of (.nil _) (.nil _)) ⟨rfl, rfl, rfl⟩
/-- (*scan.Cursor).while -/
def scan_Cursor_while_v3_R (o1 : List UInt8) (r : (List UInt8)) : Prop :=
  r = ([] : List UInt8)
set_option maxHeartbeats 4000000 in
theorem scan_Cursor_while_v3_con (o1 : List UInt8) (bx0 : Nat) (r : (List UInt8)) (h : scan_Cursor_while_v3_R o1 r) : Con Try.prog 27 [.v (.pointer none), .v (.func (.func 30) #[] #[.pointer (some ⟨bx0, 0, none⟩)])] [⟨bx0, 24, [.sl 1 none (List.map eb o1)]⟩] [] (fun rr bx tk => rr = .sl 1 none (List.map eb r) ∧ bx = [⟨bx0, 24, [.sl 1 none (List.map eb o1)]⟩] ∧ tk = []) := by
  refine xenter Try.func27 rfl rfl fun g hg => ?_
  simp only [Try.ntmps27, slots]
  refine xseq ?_
  refine xregion ?_
  refine xvalP (pv_assign rfl) rfl rfl ?_
  refine xnil ?_
  refine xthen ?_
  refine xseq ?_
  refine xseq ?_
  refine xregion ?_
  refine xvalP (pv_move rfl) rfl rfl ?_
  refine xvalP (pv_eqNilN UndC.h rfl rfl) rfl rfl ?_
  refine xnil ?_
  refine xthen ?_
  refine xcondT rfl ?_
  refine xseq ?_
  refine xregion ?_
  refine xvalP (pv_assign rfl) rfl rfl ?_
  refine xnil ?_
  refine xthen ?_
  refine xretc ?_
  refine xthen_ret ?_
  replace h := h.symm
  subst h
  exact xret1 hg rfl rfl (.nil_pl _) (SubM.of (.keep rfl rfl (.refl _) (.nil _)) (.nil _)) ⟨rfl, rfl, rfl⟩
/-- (*scan.Cursor).Skip -/
def scan_Cursor_Skip_R (any1 : List UInt8) (r : Int) : Prop :=
  ∃ y3 : (List UInt8), scan_Cursor_while_v3_R any1 y3 ∧ r = (y3.length : Int)
set_option maxHeartbeats 4000000 in
theorem scan_Cursor_Skip_con (any1 : List UInt8) (r : Int) (h : scan_Cursor_Skip_R any1 r) : Con Try.prog 21 [.v (.pointer none), .sl 1 none (List.map eb any1)] [] [] (Ret (.v (.int .i64 r))) := by
  refine xenter Try.func21 rfl rfl fun g hg => ?_
  simp only [Try.ntmps21, slots]
  refine xseq ?_
  refine xregion ?_
  refine xbox rfl rfl rfl rfl fun b3 => ?_
  refine xvalP (pv_assign rfl) rfl rfl ?_
  refine xnil ?_
  refine xthen ?_
  refine xseq ?_
  refine xregion ?_
  refine xvalP (pv_move rfl) rfl rfl ?_
  refine xvalP (pv_makeFuncC rfl) rfl rfl ?_
  obtain ⟨y3, h2, h⟩ := h
  refine xcallF (Fb := []) (Ft := []) (scan_Cursor_while_v3_con any1 b3 _ h2) Try.func27 (by kernel_rfl) rfl (.cons rfl (.refl _) (.cons rfl (.refl _) .nil)) (by exact (SubM.of (by repeat (first | with_reducible exact SubB.refl _ | exact SubB.nil _ | refine SubB.keep rfl rfl (by first | with_reducible exact WkL.refl _ | ((repeat (first | exact WkL.nil | refine WkL.cons (by first | with_reducible exact Wk.refl _ | exact Wk.nil_own _ | exact Wk.nil_pl _ | with_reducible exact Wk.tok _ _ _ | exact Wk.tok _ _ _ | exact Wk.eq (by first | rfl | (simp []; done) | (simp []; omega))) ?_)); done) | exact WkL.refl _) ?_ | refine SubB.drop ?_)) (by repeat (first | exact SubT.nil _ | refine SubT.add ?_ | (refine SubT.keep ?_ ?_; focus (first | with_reducible rfl | (simp []; done))) | refine SubT.drop ?_)))) rfl rfl ?_
  rintro _ _ _ ⟨rfl, rfl, rfl⟩
  simp only [List.nil_append, List.cons_append]
  refine xvalP (pv_lenM UndC.h rfl) rfl rfl ?_
  refine xvalP (pv_assign rfl) rfl rfl ?_
  refine xnil ?_
  refine xthen ?_
  refine xretc ?_
  replace h := h.symm
  subst h
  exact xret1 hg rfl rfl (.refl _) (SubM.of (.nil _) (.nil _)) ⟨rfl, rfl, rfl⟩
/-- (*scan.Cursor).while -/
def scan_Cursor_while_v4_R (r : (List UInt8)) : Prop :=
  r = ([] : List UInt8)
set_option maxHeartbeats 4000000 in
theorem scan_Cursor_while_v4_con (r : (List UInt8)) (h : scan_Cursor_while_v4_R r) : Con Try.prog 27 [.v (.pointer none), .v (.func (.func 32) #[] #[])] [] [] (Ret (.sl 1 none (List.map eb r))) := by
  refine xenter Try.func27 rfl rfl fun g hg => ?_
  simp only [Try.ntmps27, slots]
  refine xseq ?_
  refine xregion ?_
  refine xvalP (pv_assign rfl) rfl rfl ?_
  refine xnil ?_
  refine xthen ?_
  refine xseq ?_
  refine xseq ?_
  refine xregion ?_
  refine xvalP (pv_move rfl) rfl rfl ?_
  refine xvalP (pv_eqNilN UndC.h rfl rfl) rfl rfl ?_
  refine xnil ?_
  refine xthen ?_
  refine xcondT rfl ?_
  refine xseq ?_
  refine xregion ?_
  refine xvalP (pv_assign rfl) rfl rfl ?_
  refine xnil ?_
  refine xthen ?_
  refine xretc ?_
  refine xthen_ret ?_
  replace h := h.symm
  subst h
  exact xret1 hg rfl rfl (.nil_pl _) (SubM.of (.nil _) (.nil _)) ⟨rfl, rfl, rfl⟩
/-- (*scan.Cursor).Word -/
def scan_Cursor_Word_R (r : ByteArray) : Prop :=
  ∃ y2 : (List UInt8), scan_Cursor_while_v4_R y2 ∧ r = (⟨y2.toArray⟩ : ByteArray)
set_option maxHeartbeats 4000000 in
theorem scan_Cursor_Word_con (r : ByteArray) (h : scan_Cursor_Word_R r) : Con Try.prog 22 [.v (.pointer none)] [] [] (Ret (.v (.string r))) := by
  refine xenter Try.func22 rfl rfl fun g hg => ?_
  simp only [Try.ntmps22, slots]
  refine xseq ?_
  refine xregion ?_
  refine xvalP (pv_assign rfl) rfl rfl ?_
  refine xnil ?_
  refine xthen ?_
  refine xseq ?_
  refine xregion ?_
  refine xvalP (pv_move rfl) rfl rfl ?_
  obtain ⟨y2, h1, h⟩ := h
  refine xcall0 (scan_Cursor_while_v4_con _ h1) Try.func27 (by kernel_rfl) rfl (.cons rfl (.refl _) (.cons rfl (.refl _) .nil)) rfl rfl ?_
  refine xval (pv_str (bs := y2) UndC.h UndC.h UndC.h rfl rfl rfl (fun _ h => by injection h with h; exact h.symm)) rfl rfl ?_
  refine xvalP (pv_assign rfl) rfl rfl ?_
  refine xnil ?_
  refine xthen ?_
  refine xretc ?_
  replace h := h.symm
  subst h
  exact xret1 hg rfl rfl (.refl _) (SubM.of (.nil _) (.nil _)) ⟨rfl, rfl, rfl⟩
/-- (*scan.Cursor).while -/
def scan_Cursor_while_v5_R (r : (List UInt8)) : Prop :=
  r = ([] : List UInt8)
set_option maxHeartbeats 4000000 in
theorem scan_Cursor_while_v5_con (r : (List UInt8)) (h : scan_Cursor_while_v5_R r) : Con Try.prog 27 [.v (.pointer none), .v (.func (.func 28) #[] #[])] [] [] (Ret (.sl 1 none (List.map eb r))) := by
  refine xenter Try.func27 rfl rfl fun g hg => ?_
  simp only [Try.ntmps27, slots]
  refine xseq ?_
  refine xregion ?_
  refine xvalP (pv_assign rfl) rfl rfl ?_
  refine xnil ?_
  refine xthen ?_
  refine xseq ?_
  refine xseq ?_
  refine xregion ?_
  refine xvalP (pv_move rfl) rfl rfl ?_
  refine xvalP (pv_eqNilN UndC.h rfl rfl) rfl rfl ?_
  refine xnil ?_
  refine xthen ?_
  refine xcondT rfl ?_
  refine xseq ?_
  refine xregion ?_
  refine xvalP (pv_assign rfl) rfl rfl ?_
  refine xnil ?_
  refine xthen ?_
  refine xretc ?_
  refine xthen_ret ?_
  replace h := h.symm
  subst h
  exact xret1 hg rfl rfl (.nil_pl _) (SubM.of (.nil _) (.nil _)) ⟨rfl, rfl, rfl⟩
/-- (*scan.Cursor).Rest -/
def scan_Cursor_Rest_v3_R (r : (List UInt8)) : Prop :=
  ∃ y2 : (List UInt8), scan_Cursor_while_v5_R y2 ∧ ∃ y4 : UInt8 × Bool, scan_Cursor_Next_v3_R y4 ∧ r = y2
set_option maxHeartbeats 4000000 in
theorem scan_Cursor_Rest_v3_con (r : (List UInt8)) (h : scan_Cursor_Rest_v3_R r) : Con Try.prog 17 [.v (.pointer none)] [] [] (Ret (.sl 1 none (List.map eb r))) := by
  refine xenter Try.func17 rfl rfl fun g hg => ?_
  simp only [Try.ntmps17, slots]
  refine xseq ?_
  refine xregion ?_
  refine xvalP (pv_assign rfl) rfl rfl ?_
  refine xnil ?_
  refine xthen ?_
  refine xseq ?_
  refine xregion ?_
  refine xvalP (pv_move rfl) rfl rfl ?_
  obtain ⟨y2, h1, h⟩ := h
  refine xcall0 (scan_Cursor_while_v5_con _ h1) Try.func27 (by kernel_rfl) rfl (.cons rfl (.refl _) (.cons rfl (.refl _) .nil)) rfl rfl ?_
  refine xvalP (pv_assign rfl) rfl rfl ?_
  refine xnil ?_
  refine xthen ?_
  refine xseq ?_
  refine xregion ?_
  refine xvalP (pv_move rfl) rfl rfl ?_
  obtain ⟨y4, h3, h⟩ := h
  refine xcallF (Fb := []) (Ft := []) (scan_Cursor_Next_v3_con _ h3) Try.func19 (by kernel_rfl) rfl (.cons rfl (.refl _) .nil) (by exact (SubM.of (by repeat (first | with_reducible exact SubB.refl _ | exact SubB.nil _ | refine SubB.keep rfl rfl (by first | with_reducible exact WkL.refl _ | ((repeat (first | exact WkL.nil | refine WkL.cons (by first | with_reducible exact Wk.refl _ | exact Wk.nil_own _ | exact Wk.nil_pl _ | with_reducible exact Wk.tok _ _ _ | exact Wk.tok _ _ _ | exact Wk.eq (by first | rfl | (simp []; done) | (simp []; omega))) ?_)); done) | exact WkL.refl _) ?_ | refine SubB.drop ?_)) (by repeat (first | exact SubT.nil _ | refine SubT.add ?_ | (refine SubT.keep ?_ ?_; focus (first | with_reducible rfl | (simp []; done))) | refine SubT.drop ?_)))) rfl rfl ?_
  rintro _ _ _ ⟨rfl, rfl, rfl⟩
  simp only [List.nil_append, List.cons_append]
  refine xnil ?_
  refine xthen ?_
  refine xseq ?_
  refine xregion ?_
  refine xvalP (pv_move rfl) rfl rfl ?_
  refine xvalP (pv_assign rfl) rfl rfl ?_
  refine xnil ?_
  refine xthen ?_
  refine xretc ?_
  replace h := h.symm
  subst h
  exact xret1 hg rfl rfl (.refl _) (SubM.of (.nil _) (.nil _)) ⟨rfl, rfl, rfl⟩
end Go.Proofs.Ytfngfgiikpofgaa
