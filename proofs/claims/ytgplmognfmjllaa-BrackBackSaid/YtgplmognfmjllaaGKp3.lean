/- What functions' texts ask for, and the walks that show it (printed by a program). -/
import Derived.Test.YtgplmognfmjllaaGKp2
namespace Go.Proofs.Ytgplmognfmjllaa
/-- brack.part -/
def brack_part_j1 (y4 : (UInt8 × (Arr 4 (UInt64)) × Bool × Int) × Int) (y55 : (UInt8 × (Arr 4 (UInt64)) × Bool × Int) × Int) (x68 : Bool) (r : (Arr 4 (UInt64)) × Int × Int) : Prop :=
  ((x68 = true → r = ((Arr.rep 4 (0 : UInt64)), 0, 3)) ∧ (¬ (x68 = true) → ∃ y77 : (Arr 4 (UInt64)), class_Range_R y4.1.1 y55.1.1 y77 ∧ r = (y77, y55.1.2.2.2, 0)))
def brack_part_R (x1 : List UInt8) (x2 : Int) (r : (Arr 4 (UInt64)) × Int × Int) : Prop :=
  ∃ y4 : (UInt8 × (Arr 4 (UInt64)) × Bool × Int) × Int, brack_read_R x1 x2 y4 ∧ ((¬ (y4.2 = 0) → r = ((Arr.rep 4 (0 : UInt64)), 0, y4.2)) ∧ (¬ (¬ (y4.2 = 0)) → ∃ y31 : Bool, brack_isDash_R x1 y4.1.2.2.2 y31 ∧ ((¬ (y31 = true) → ((y4.1.2.2.1 = true → r = (y4.1.2.1, y4.1.2.2.2, 0)) ∧ (¬ (y4.1.2.2.1 = true) → ∃ y46 : (Arr 4 (UInt64)), class_Of_R ([y4.1.1]) y46 ∧ r = (y46, y4.1.2.2.2, 0)))) ∧ (¬ (¬ (y31 = true)) → ((y4.1.2.2.1 = true → r = ((Arr.rep 4 (0 : UInt64)), 0, 3)) ∧ (¬ (y4.1.2.2.1 = true) → InR (y4.1.2.2.2 + 1) ∧ ∃ y55 : (UInt8 × (Arr 4 (UInt64)) × Bool × Int) × Int, brack_read_R x1 (y4.1.2.2.2 + 1) y55 ∧ ((¬ (y55.2 = 0) → r = ((Arr.rep 4 (0 : UInt64)), 0, y55.2)) ∧ (¬ (¬ (y55.2 = 0)) → brack_part_j1 y4 y55 (y55.1.2.2.1 || (decide ((y55.1.1.toNat : Int) < (y4.1.1.toNat : Int)))) r))))))))
def brack_part_j1_ev (fuel : Nat) (y4 : (UInt8 × (Arr 4 (UInt64)) × Bool × Int) × Int) (y55 : (UInt8 × (Arr 4 (UInt64)) × Bool × Int) × Int) (x68 : Bool) : Option ((Arr 4 (UInt64)) × Int × Int) :=
  (if x68 = true then some ((Arr.rep 4 (0 : UInt64)), 0, 3) else ((class_Range_ev fuel y4.1.1 y55.1.1).bind fun y77 => some (y77, y55.1.2.2.2, 0)))
theorem brack_part_j1_ok {fuel : Nat} {y4 : (UInt8 × (Arr 4 (UInt64)) × Bool × Int) × Int} {y55 : (UInt8 × (Arr 4 (UInt64)) × Bool × Int) × Int} {x68 : Bool} {r : (Arr 4 (UInt64)) × Int × Int} (h : brack_part_j1_ev fuel y4 y55 x68 = some r) : brack_part_j1 y4 y55 x68 r := by
  unfold brack_part_j1_ev at h
  unfold brack_part_j1
  refine ⟨fun g121 => ?_, fun g121 => ?_⟩
  · rw [if_pos g121] at h
    exact (Option.some.inj h).symm
  · rw [if_neg g121] at h
    obtain ⟨q122, g122, h⟩ := bind_ok h
    refine ⟨q122, class_Range_ok g122, ?_⟩
    exact (Option.some.inj h).symm
def brack_part_ev (fuel : Nat) (x1 : List UInt8) (x2 : Int) : Option ((Arr 4 (UInt64)) × Int × Int) :=
  ((brack_read_ev fuel x1 x2).bind fun y4 => (if ¬ (y4.2 = 0) then some ((Arr.rep 4 (0 : UInt64)), 0, y4.2) else ((brack_isDash_ev fuel x1 y4.1.2.2.2).bind fun y31 => (if ¬ (y31 = true) then (if y4.1.2.2.1 = true then some (y4.1.2.1, y4.1.2.2.2, 0) else ((class_Of_ev fuel ([y4.1.1])).bind fun y46 => some (y46, y4.1.2.2.2, 0))) else (if y4.1.2.2.1 = true then some ((Arr.rep 4 (0 : UInt64)), 0, 3) else (if InR (y4.1.2.2.2 + 1) then ((brack_read_ev fuel x1 (y4.1.2.2.2 + 1)).bind fun y55 => (if ¬ (y55.2 = 0) then some ((Arr.rep 4 (0 : UInt64)), 0, y55.2) else brack_part_j1_ev fuel y4 y55 (y55.1.2.2.1 || (decide ((y55.1.1.toNat : Int) < (y4.1.1.toNat : Int)))))) else none))))))
theorem brack_part_ok {fuel : Nat} {x1 : List UInt8} {x2 : Int} {r : (Arr 4 (UInt64)) × Int × Int} (h : brack_part_ev fuel x1 x2 = some r) : brack_part_R x1 x2 r := by
  unfold brack_part_ev at h
  unfold brack_part_R
  obtain ⟨q123, g123, h⟩ := bind_ok h
  refine ⟨q123, brack_read_ok g123, ?_⟩
  refine ⟨fun g124 => ?_, fun g124 => ?_⟩
  · rw [if_pos g124] at h
    exact (Option.some.inj h).symm
  · rw [if_neg g124] at h
    obtain ⟨q125, g125, h⟩ := bind_ok h
    refine ⟨q125, brack_isDash_ok g125, ?_⟩
    refine ⟨fun g126 => ?_, fun g126 => ?_⟩
    · rw [if_pos g126] at h
      refine ⟨fun g127 => ?_, fun g127 => ?_⟩
      · rw [if_pos g127] at h
        exact (Option.some.inj h).symm
      · rw [if_neg g127] at h
        obtain ⟨q128, g128, h⟩ := bind_ok h
        refine ⟨q128, class_Of_ok g128, ?_⟩
        exact (Option.some.inj h).symm
    · rw [if_neg g126] at h
      refine ⟨fun g129 => ?_, fun g129 => ?_⟩
      · rw [if_pos g129] at h
        exact (Option.some.inj h).symm
      · rw [if_neg g129] at h
        obtain ⟨g130, h⟩ := if_ok h
        refine ⟨g130, ?_⟩
        obtain ⟨q131, g131, h⟩ := bind_ok h
        refine ⟨q131, brack_read_ok g131, ?_⟩
        refine ⟨fun g132 => ?_, fun g132 => ?_⟩
        · rw [if_pos g132] at h
          exact (Option.some.inj h).symm
        · rw [if_neg g132] at h
          exact brack_part_j1_ok h
set_option maxHeartbeats 4000000 in
theorem brack_part_con (x1 : List UInt8) (x2 : Int) (r : (Arr 4 (UInt64)) × Int × Int) (h : brack_part_R x1 x2 r) : Con Try.prog 11 [.sl 1 none (List.map eb x1), .v (.int .i64 x2)] [] [] (fun rr bx tk => rr = .tup [.agg ((List.map ew r.1.l).flatten), .v (.int .i64 r.2.1), .v (.int .i64 r.2.2)] ∧ bx = [] ∧ tk = []) := by
  refine xenter Try.func11 rfl rfl fun g hg => ?_
  simp only [Try.ntmps11, slots]
  refine xseq ?_
  refine xregion ?_
  refine xalloc InfC.h rfl rfl fun b4 => ?_
  refine xreb 0 ((List.map ew ((Arr.rep 4 (0 : UInt64))).l).flatten) rfl rfl ?_
  refine xvalP (pv_assign rfl) rfl rfl ?_
  refine xvalP (pv_assign rfl) rfl rfl ?_
  refine xnil ?_
  refine xthen ?_
  refine xseq ?_
  refine xregion ?_
  refine xvalP (pv_move rfl) rfl rfl ?_
  refine xvalP (pv_move rfl) rfl rfl ?_
  obtain ⟨y4, h3, h⟩ := h
  refine xcallF (Fb := [⟨b4, 26, ((List.map ew ((Arr.rep 4 (0 : UInt64))).l).flatten)⟩]) (Ft := []) (brack_read_con x1 x2 _ h3) Try.func22 (by kernel_rfl) rfl (.cons rfl (.refl _) (.cons rfl (.refl _) .nil)) (by exact (SubM.of (by repeat (first | with_reducible exact SubB.refl _ | exact SubB.nil _ | refine SubB.keep rfl rfl (by first | with_reducible exact WkL.refl _ | ((repeat (first | exact WkL.nil | refine WkL.cons (by first | with_reducible exact Wk.refl _ | exact Wk.nil_own _ | exact Wk.nil_pl _ | with_reducible exact Wk.tok _ _ _ | exact Wk.tok _ _ _ | exact Wk.eq (by first | rfl | (simp []; done) | (simp []; omega))) ?_)); done) | exact WkL.refl _) ?_ | refine SubB.drop ?_)) (by repeat (first | exact SubT.nil _ | refine SubT.add ?_ | (refine SubT.keep ?_ ?_; focus (first | with_reducible rfl | (simp []; done))) | refine SubT.drop ?_)))) rfl rfl ?_
  rintro _ _ _ ⟨rfl, rfl, rfl⟩
  simp only [List.nil_append, List.cons_append]
  refine xvalP (pv_move rfl) rfl rfl ?_
  refine xvalP (pv_extract rfl rfl) rfl rfl ?_
  refine xvalP (pv_extract rfl rfl) rfl rfl ?_
  refine xalloc InfC.h rfl rfl fun b7 => ?_
  refine xreb 0 ([.v (.int .u8 0)] ++ ((List.map ew ((Arr.rep 4 (0 : UInt64))).l).flatten ++ [.v (.bool false), .v (.int .i64 0)])) rfl rfl ?_
  refine xstoreP 0 [] ([.v (.int .u8 0)] ++ ((List.map ew ((Arr.rep 4 (0 : UInt64))).l).flatten ++ [.v (.bool false), .v (.int .i64 0)])) [] (by first | rfl | exact (List.append_nil _).symm | exact List.append_nil _ | exact List.append_assoc _ _ _ | exact (List.append_assoc _ _ _).symm | exact congrArg _ (List.append_nil _).symm | exact congrArg _ (List.append_nil _) | (simp; done) | (simp [cellsS]; done)) (by first | rfl | exact seg_lenE (by rfl) | exact len_app rfl (seg_lenE (by rfl)) (by rfl) | exact len_app (seg_lenE (by rfl)) rfl (by rfl) | exact len_app rfl (len_app (seg_lenE (by rfl)) rfl (by rfl)) (by rfl) | (simp only [seg_len, cellsS, List.length_append, List.length_cons, List.length_nil]; done) | (simp only [seg_len, cellsS, List.length_append, List.length_cons, List.length_nil]; rfl)) (by first | rfl | exact seg_lenE (by rfl) | exact len_app rfl (seg_lenE (by rfl)) (by rfl) | exact len_app (seg_lenE (by rfl)) rfl (by rfl) | exact len_app rfl (len_app (seg_lenE (by rfl)) rfl (by rfl)) (by rfl) | (simp only [seg_len, cellsS, List.length_append, List.length_cons, List.length_nil]; done) | (simp only [seg_len, cellsS, List.length_append, List.length_cons, List.length_nil]; rfl)) ShpC.h rfl rfl rfl rfl (by first | rfl | exact seg_lenE (by rfl) | exact len_app rfl (seg_lenE (by rfl)) (by rfl) | exact len_app (seg_lenE (by rfl)) rfl (by rfl) | exact len_app rfl (len_app (seg_lenE (by rfl)) rfl (by rfl)) (by rfl) | (simp only [seg_len, cellsS, List.length_append, List.length_cons, List.length_nil]; done) | (simp only [seg_len, cellsS, List.length_append, List.length_cons, List.length_nil]; rfl)) rfl ?_
  refine xreb 0 ([.v (.int .u8 ((y4.1.1.toNat : Int)))] ++ ((List.map ew y4.1.2.1.l).flatten ++ [.v (.bool y4.1.2.2.1), .v (.int .i64 y4.1.2.2.2)])) rfl (by first | rfl | exact (List.append_nil _).symm | exact List.append_nil _ | exact List.append_assoc _ _ _ | exact (List.append_assoc _ _ _).symm | exact congrArg _ (List.append_nil _).symm | exact congrArg _ (List.append_nil _) | (simp; done) | (simp [cellsS]; done)) ?_
  refine xvalP (pv_assign rfl) rfl rfl ?_
  refine xnil ?_
  refine xthen ?_
  refine xseq ?_
  refine xseq ?_
  refine xregion ?_
  refine xvalP (pv_move rfl) rfl rfl ?_
  refine xvalP (pv_bin2 rfl rfl rfl) rfl rfl ?_
  refine xnil ?_
  refine xthen ?_
  by_cases hp8 : ¬ (y4.2 = 0)
  · replace h := h.1 hp8
    refine xcondT' (not_t (decide_eq_false hp8)) rfl ?_
    refine xseq ?_
    refine xregion ?_
    refine xvalP (pv_buildAC (cs := ((List.map ew ((Arr.rep 4 (0 : UInt64))).l).flatten)) UndC.h ShpC.h InfC.h rfl (by rfl)) rfl rfl ?_
    refine xvalP (pv_move rfl) rfl rfl ?_
    refine xstoreP 1 [] ((List.map ew ((Arr.rep 4 (0 : UInt64))).l).flatten) [] (by first | rfl | exact (List.append_nil _).symm | exact List.append_nil _ | exact List.append_assoc _ _ _ | exact (List.append_assoc _ _ _).symm | exact congrArg _ (List.append_nil _).symm | exact congrArg _ (List.append_nil _) | (simp; done) | (simp [cellsS]; done)) (by first | rfl | exact seg_lenE (by rfl) | exact len_app rfl (seg_lenE (by rfl)) (by rfl) | exact len_app (seg_lenE (by rfl)) rfl (by rfl) | exact len_app rfl (len_app (seg_lenE (by rfl)) rfl (by rfl)) (by rfl) | (simp only [seg_len, cellsS, List.length_append, List.length_cons, List.length_nil]; done) | (simp only [seg_len, cellsS, List.length_append, List.length_cons, List.length_nil]; rfl)) (by first | rfl | exact seg_lenE (by rfl) | exact len_app rfl (seg_lenE (by rfl)) (by rfl) | exact len_app (seg_lenE (by rfl)) rfl (by rfl) | exact len_app rfl (len_app (seg_lenE (by rfl)) rfl (by rfl)) (by rfl) | (simp only [seg_len, cellsS, List.length_append, List.length_cons, List.length_nil]; done) | (simp only [seg_len, cellsS, List.length_append, List.length_cons, List.length_nil]; rfl)) ShpC.h rfl rfl rfl rfl (by first | rfl | exact seg_lenE (by rfl) | exact len_app rfl (seg_lenE (by rfl)) (by rfl) | exact len_app (seg_lenE (by rfl)) rfl (by rfl) | exact len_app rfl (len_app (seg_lenE (by rfl)) rfl (by rfl)) (by rfl) | (simp only [seg_len, cellsS, List.length_append, List.length_cons, List.length_nil]; done) | (simp only [seg_len, cellsS, List.length_append, List.length_cons, List.length_nil]; rfl)) rfl ?_
    refine xreb 1 ((List.map ew ((Arr.rep 4 (0 : UInt64))).l).flatten) rfl (by first | rfl | exact (List.append_nil _).symm | exact List.append_nil _ | exact List.append_assoc _ _ _ | exact (List.append_assoc _ _ _).symm | exact congrArg _ (List.append_nil _).symm | exact congrArg _ (List.append_nil _) | (simp; done) | (simp [cellsS]; done)) ?_
    refine xvalP (pv_assign rfl) rfl rfl ?_
    refine xvalP (pv_assign rfl) rfl rfl ?_
    refine xnil ?_
    refine xthen ?_
    refine xretc ?_
    refine xthen_ret ?_
    replace h := h.symm
    subst h
    exact xretL (rs := [.cell 4 26, .tmp 5, .tmp 6]) (ss := [.agg ((List.map ew ((Arr.rep 4 (0 : UInt64))).l).flatten), .v (.int .i64 0), .v (.int .i64 y4.2)]) hg rfl (by refine RetL.cell 1 ShpC.h rfl rfl (part_midE (pre := []) (mid := ((List.map ew ((Arr.rep 4 (0 : UInt64))).l).flatten)) (post := []) (by first | rfl | exact (List.append_nil _).symm | exact List.append_nil _ | exact List.append_assoc _ _ _ | exact (List.append_assoc _ _ _).symm | exact congrArg _ (List.append_nil _).symm | exact congrArg _ (List.append_nil _) | (simp; done) | (simp [cellsS]; done)) (by first | rfl | exact seg_lenE (by rfl) | exact len_app rfl (seg_lenE (by rfl)) (by rfl) | exact len_app (seg_lenE (by rfl)) rfl (by rfl) | exact len_app rfl (len_app (seg_lenE (by rfl)) rfl (by rfl)) (by rfl) | (simp only [seg_len, cellsS, List.length_append, List.length_cons, List.length_nil]; done) | (simp only [seg_len, cellsS, List.length_append, List.length_cons, List.length_nil]; rfl)) (by first | rfl | exact seg_lenE (by rfl) | exact len_app rfl (seg_lenE (by rfl)) (by rfl) | exact len_app (seg_lenE (by rfl)) rfl (by rfl) | exact len_app rfl (len_app (seg_lenE (by rfl)) rfl (by rfl)) (by rfl) | (simp only [seg_len, cellsS, List.length_append, List.length_cons, List.length_nil]; done) | (simp only [seg_len, cellsS, List.length_append, List.length_cons, List.length_nil]; rfl)) (part_all (seg_lenE (by rfl)))) (len_midE (pre := []) (mid := ((List.map ew ((Arr.rep 4 (0 : UInt64))).l).flatten)) (post := []) (by first | rfl | exact (List.append_nil _).symm | exact List.append_nil _ | exact List.append_assoc _ _ _ | exact (List.append_assoc _ _ _).symm | exact congrArg _ (List.append_nil _).symm | exact congrArg _ (List.append_nil _) | (simp; done) | (simp [cellsS]; done)) (by first | rfl | exact seg_lenE (by rfl) | exact len_app rfl (seg_lenE (by rfl)) (by rfl) | exact len_app (seg_lenE (by rfl)) rfl (by rfl) | exact len_app rfl (len_app (seg_lenE (by rfl)) rfl (by rfl)) (by rfl) | (simp only [seg_len, cellsS, List.length_append, List.length_cons, List.length_nil]; done) | (simp only [seg_len, cellsS, List.length_append, List.length_cons, List.length_nil]; rfl)) (by first | rfl | exact seg_lenE (by rfl) | exact len_app rfl (seg_lenE (by rfl)) (by rfl) | exact len_app (seg_lenE (by rfl)) rfl (by rfl) | exact len_app rfl (len_app (seg_lenE (by rfl)) rfl (by rfl)) (by rfl) | (simp only [seg_len, cellsS, List.length_append, List.length_cons, List.length_nil]; done) | (simp only [seg_len, cellsS, List.length_append, List.length_cons, List.length_nil]; rfl))) (by first | with_reducible exact Wk.refl _ | exact Wk.nil_own _ | exact Wk.nil_pl _ | with_reducible exact Wk.tok _ _ _ | exact Wk.tok _ _ _ | exact .eq rfl) ?_; refine RetL.tmp rfl (.refl _) ?_; refine RetL.tmp rfl (.refl _) ?_; exact RetL.nil) (SubM.of (.nil _) (.nil _)) ⟨rfl, rfl, rfl⟩
  · replace h := h.2 hp8
    refine xcondF' (not_f (decide_eq_true (Decidable.of_not_not hp8))) rfl ?_
    refine xskipc ?_
    refine xthen ?_
    refine xseq ?_
    refine xseq ?_
    refine xregion ?_
    refine xvalP (pv_move rfl) rfl rfl ?_
    refine xvalP (qv_fieldAddrB FldC.h rfl) rfl rfl ?_
    refine xval (qv_loadP 0 ([.v (.int .u8 ((y4.1.1.toNat : Int)))] ++ ((List.map ew y4.1.2.1.l).flatten ++ [.v (.bool y4.1.2.2.1)])) [.v (.int .i64 y4.1.2.2.2)] [] (by first | rfl | exact (List.append_nil _).symm | exact List.append_nil _ | exact List.append_assoc _ _ _ | exact (List.append_assoc _ _ _).symm | exact congrArg _ (List.append_nil _).symm | exact congrArg _ (List.append_nil _) | (simp; done) | (simp [cellsS]; done)) (by first | rfl | exact seg_lenE (by rfl) | exact len_app rfl (seg_lenE (by rfl)) (by rfl) | exact len_app (seg_lenE (by rfl)) rfl (by rfl) | exact len_app rfl (len_app (seg_lenE (by rfl)) rfl (by rfl)) (by rfl) | (simp only [seg_len, cellsS, List.length_append, List.length_cons, List.length_nil]; done) | (simp only [seg_len, cellsS, List.length_append, List.length_cons, List.length_nil]; rfl)) (by first | rfl | exact seg_lenE (by rfl) | exact len_app rfl (seg_lenE (by rfl)) (by rfl) | exact len_app (seg_lenE (by rfl)) rfl (by rfl) | exact len_app rfl (len_app (seg_lenE (by rfl)) rfl (by rfl)) (by rfl) | (simp only [seg_len, cellsS, List.length_append, List.length_cons, List.length_nil]; done) | (simp only [seg_len, cellsS, List.length_append, List.length_cons, List.length_nil]; rfl)) rfl ShpC.h rfl rfl) rfl rfl ?_
    obtain ⟨y31, h30, h⟩ := h
    refine xcall0 (brack_isDash_con x1 y4.1.2.2.2 _ h30) Try.func23 (by kernel_rfl) rfl (.cons rfl (.refl _) (.cons rfl (.refl _) .nil)) rfl rfl ?_
    refine xvalP (pv_not rfl) rfl rfl ?_
    refine xnil ?_
    refine xthen ?_
    by_cases hp32 : ¬ (y31 = true)
    · replace h := h.1 hp32
      refine xcondT' (not_t (b_f hp32)) rfl ?_
      refine xseq ?_
      refine xseq ?_
      refine xregion ?_
      refine xvalP (qv_fieldAddrB FldC.h rfl) rfl rfl ?_
      refine xval (qv_loadP 0 ([.v (.int .u8 ((y4.1.1.toNat : Int)))] ++ (List.map ew y4.1.2.1.l).flatten) [.v (.bool y4.1.2.2.1)] [.v (.int .i64 y4.1.2.2.2)] (by first | rfl | exact (List.append_nil _).symm | exact List.append_nil _ | exact List.append_assoc _ _ _ | exact (List.append_assoc _ _ _).symm | exact congrArg _ (List.append_nil _).symm | exact congrArg _ (List.append_nil _) | (simp; done) | (simp [cellsS]; done)) (by first | rfl | exact seg_lenE (by rfl) | exact len_app rfl (seg_lenE (by rfl)) (by rfl) | exact len_app (seg_lenE (by rfl)) rfl (by rfl) | exact len_app rfl (len_app (seg_lenE (by rfl)) rfl (by rfl)) (by rfl) | (simp only [seg_len, cellsS, List.length_append, List.length_cons, List.length_nil]; done) | (simp only [seg_len, cellsS, List.length_append, List.length_cons, List.length_nil]; rfl)) (by first | rfl | exact seg_lenE (by rfl) | exact len_app rfl (seg_lenE (by rfl)) (by rfl) | exact len_app (seg_lenE (by rfl)) rfl (by rfl) | exact len_app rfl (len_app (seg_lenE (by rfl)) rfl (by rfl)) (by rfl) | (simp only [seg_len, cellsS, List.length_append, List.length_cons, List.length_nil]; done) | (simp only [seg_len, cellsS, List.length_append, List.length_cons, List.length_nil]; rfl)) rfl ShpC.h rfl rfl) rfl rfl ?_
      refine xnil ?_
      refine xthen ?_
      by_cases hp36 : y4.1.2.2.1 = true
      · replace h := h.1 hp36
        refine xcondT' hp36 rfl ?_
        refine xseq ?_
        refine xregionD (m := 7) (by kernel_rfl) rfl ?_
        refine xpcut 0 #[true, true, true, true, true, true, true] (fun σ => σ = ⟨[(4, .v (.pointer (some ⟨b4, 0, none⟩))), (5, .v (.int .i64 y4.1.2.2.2)), (6, .v (.int .i64 0))], [⟨b4, 26, ((List.map ew y4.1.2.1.l).flatten)⟩], []⟩) ?_ (fun key38 => ?_)
        · rintro _ rfl
          refine xpdone (by kernel_rfl) ?_
          refine xthen ?_
          refine xretc ?_
          refine xthen_ret ?_
          refine xthen_ret ?_
          replace h := h.symm
          subst h
          exact xretL (rs := [.cell 4 26, .tmp 5, .tmp 6]) (ss := [.agg ((List.map ew y4.1.2.1.l).flatten), .v (.int .i64 y4.1.2.2.2), .v (.int .i64 0)]) hg rfl (by refine RetL.cell 0 ShpC.h rfl rfl (part_midE (pre := []) (mid := ((List.map ew y4.1.2.1.l).flatten)) (post := []) (by first | rfl | exact (List.append_nil _).symm | exact List.append_nil _ | exact List.append_assoc _ _ _ | exact (List.append_assoc _ _ _).symm | exact congrArg _ (List.append_nil _).symm | exact congrArg _ (List.append_nil _) | (simp; done) | (simp [cellsS]; done)) (by first | rfl | exact seg_lenE (by rfl) | exact len_app rfl (seg_lenE (by rfl)) (by rfl) | exact len_app (seg_lenE (by rfl)) rfl (by rfl) | exact len_app rfl (len_app (seg_lenE (by rfl)) rfl (by rfl)) (by rfl) | (simp only [seg_len, cellsS, List.length_append, List.length_cons, List.length_nil]; done) | (simp only [seg_len, cellsS, List.length_append, List.length_cons, List.length_nil]; rfl)) (by first | rfl | exact seg_lenE (by rfl) | exact len_app rfl (seg_lenE (by rfl)) (by rfl) | exact len_app (seg_lenE (by rfl)) rfl (by rfl) | exact len_app rfl (len_app (seg_lenE (by rfl)) rfl (by rfl)) (by rfl) | (simp only [seg_len, cellsS, List.length_append, List.length_cons, List.length_nil]; done) | (simp only [seg_len, cellsS, List.length_append, List.length_cons, List.length_nil]; rfl)) (part_all (seg_lenE (by rfl)))) (len_midE (pre := []) (mid := ((List.map ew y4.1.2.1.l).flatten)) (post := []) (by first | rfl | exact (List.append_nil _).symm | exact List.append_nil _ | exact List.append_assoc _ _ _ | exact (List.append_assoc _ _ _).symm | exact congrArg _ (List.append_nil _).symm | exact congrArg _ (List.append_nil _) | (simp; done) | (simp [cellsS]; done)) (by first | rfl | exact seg_lenE (by rfl) | exact len_app rfl (seg_lenE (by rfl)) (by rfl) | exact len_app (seg_lenE (by rfl)) rfl (by rfl) | exact len_app rfl (len_app (seg_lenE (by rfl)) rfl (by rfl)) (by rfl) | (simp only [seg_len, cellsS, List.length_append, List.length_cons, List.length_nil]; done) | (simp only [seg_len, cellsS, List.length_append, List.length_cons, List.length_nil]; rfl)) (by first | rfl | exact seg_lenE (by rfl) | exact len_app rfl (seg_lenE (by rfl)) (by rfl) | exact len_app (seg_lenE (by rfl)) rfl (by rfl) | exact len_app rfl (len_app (seg_lenE (by rfl)) rfl (by rfl)) (by rfl) | (simp only [seg_len, cellsS, List.length_append, List.length_cons, List.length_nil]; done) | (simp only [seg_len, cellsS, List.length_append, List.length_cons, List.length_nil]; rfl))) (by first | with_reducible exact Wk.refl _ | exact Wk.nil_own _ | exact Wk.nil_pl _ | with_reducible exact Wk.tok _ _ _ | exact Wk.tok _ _ _ | exact .eq rfl) ?_; refine RetL.tmp rfl (.refl _) ?_; refine RetL.tmp rfl (.refl _) ?_; exact RetL.nil) (SubM.of (.nil _) (.nil _)) ⟨rfl, rfl, rfl⟩
        refine xpval 0 rfl (qv_fieldAddrB FldC.h rfl) rfl rfl (by kernel_rfl) (by kernel_rfl) (by kernel_rfl) (fun _ _ _ _ h => h) ?_
        refine xpval 2 rfl (qv_fieldAddrB FldC.h rfl) rfl rfl (by kernel_rfl) (by kernel_rfl) (by kernel_rfl) (fun _ _ _ _ h => h) ?_
        refine xpvalE 1 [3] rfl (qv_loadP 0 [.v (.int .u8 ((y4.1.1.toNat : Int)))] ((List.map ew y4.1.2.1.l).flatten) [.v (.bool y4.1.2.2.1), .v (.int .i64 y4.1.2.2.2)] (by first | rfl | exact (List.append_nil _).symm | exact List.append_nil _ | exact List.append_assoc _ _ _ | exact (List.append_assoc _ _ _).symm | exact congrArg _ (List.append_nil _).symm | exact congrArg _ (List.append_nil _) | (simp; done) | (simp [cellsS]; done)) (by first | rfl | exact seg_lenE (by rfl) | exact len_app rfl (seg_lenE (by rfl)) (by rfl) | exact len_app (seg_lenE (by rfl)) rfl (by rfl) | exact len_app rfl (len_app (seg_lenE (by rfl)) rfl (by rfl)) (by rfl) | (simp only [seg_len, cellsS, List.length_append, List.length_cons, List.length_nil]; done) | (simp only [seg_len, cellsS, List.length_append, List.length_cons, List.length_nil]; rfl)) (by first | rfl | exact seg_lenE (by rfl) | exact len_app rfl (seg_lenE (by rfl)) (by rfl) | exact len_app (seg_lenE (by rfl)) rfl (by rfl) | exact len_app rfl (len_app (seg_lenE (by rfl)) rfl (by rfl)) (by rfl) | (simp only [seg_len, cellsS, List.length_append, List.length_cons, List.length_nil]; done) | (simp only [seg_len, cellsS, List.length_append, List.length_cons, List.length_nil]; rfl)) (part_all (seg_lenE (by rfl))) ShpC.h rfl rfl) rfl rfl (by kernel_rfl) (by kernel_rfl) (by kernel_rfl) (fun _ _ _ _ h => h) ?_
        refine xpstepN (is := [3, 4]) (by kernel_rfl) (by simp) ?_
        intro i hi; simp only [List.mem_cons, List.not_mem_nil, or_false] at hi; rcases hi with rfl | rfl
        · refine ⟨_, rfl, ?_⟩
          refine wval (qv_loadP 0 ([.v (.int .u8 ((y4.1.1.toNat : Int)))] ++ ((List.map ew y4.1.2.1.l).flatten ++ [.v (.bool y4.1.2.2.1)])) [.v (.int .i64 y4.1.2.2.2)] [] (by first | rfl | exact (List.append_nil _).symm | exact List.append_nil _ | exact List.append_assoc _ _ _ | exact (List.append_assoc _ _ _).symm | exact congrArg _ (List.append_nil _).symm | exact congrArg _ (List.append_nil _) | (simp; done) | (simp [cellsS]; done)) (by first | rfl | exact seg_lenE (by rfl) | exact len_app rfl (seg_lenE (by rfl)) (by rfl) | exact len_app (seg_lenE (by rfl)) rfl (by rfl) | exact len_app rfl (len_app (seg_lenE (by rfl)) rfl (by rfl)) (by rfl) | (simp only [seg_len, cellsS, List.length_append, List.length_cons, List.length_nil]; done) | (simp only [seg_len, cellsS, List.length_append, List.length_cons, List.length_nil]; rfl)) (by first | rfl | exact seg_lenE (by rfl) | exact len_app rfl (seg_lenE (by rfl)) (by rfl) | exact len_app (seg_lenE (by rfl)) rfl (by rfl) | exact len_app rfl (len_app (seg_lenE (by rfl)) rfl (by rfl)) (by rfl) | (simp only [seg_len, cellsS, List.length_append, List.length_cons, List.length_nil]; done) | (simp only [seg_len, cellsS, List.length_append, List.length_cons, List.length_nil]; rfl)) rfl ShpC.h rfl rfl) rfl rfl ?_
          refine xpstep (i := 4) (by kernel_rfl) rfl ?_
          refine wstoreP 1 [] ((List.map ew ((Arr.rep 4 (0 : UInt64))).l).flatten) [] (by first | rfl | exact (List.append_nil _).symm | exact List.append_nil _ | exact List.append_assoc _ _ _ | exact (List.append_assoc _ _ _).symm | exact congrArg _ (List.append_nil _).symm | exact congrArg _ (List.append_nil _) | (simp; done) | (simp [cellsS]; done)) (by first | rfl | exact seg_lenE (by rfl) | exact len_app rfl (seg_lenE (by rfl)) (by rfl) | exact len_app (seg_lenE (by rfl)) rfl (by rfl) | exact len_app rfl (len_app (seg_lenE (by rfl)) rfl (by rfl)) (by rfl) | (simp only [seg_len, cellsS, List.length_append, List.length_cons, List.length_nil]; done) | (simp only [seg_len, cellsS, List.length_append, List.length_cons, List.length_nil]; rfl)) (by first | rfl | exact seg_lenE (by rfl) | exact len_app rfl (seg_lenE (by rfl)) (by rfl) | exact len_app (seg_lenE (by rfl)) rfl (by rfl) | exact len_app rfl (len_app (seg_lenE (by rfl)) rfl (by rfl)) (by rfl) | (simp only [seg_len, cellsS, List.length_append, List.length_cons, List.length_nil]; done) | (simp only [seg_len, cellsS, List.length_append, List.length_cons, List.length_nil]; rfl)) ShpC.h rfl rfl rfl rfl (by first | rfl | exact seg_lenE (by rfl) | exact len_app rfl (seg_lenE (by rfl)) (by rfl) | exact len_app (seg_lenE (by rfl)) rfl (by rfl) | exact len_app rfl (len_app (seg_lenE (by rfl)) rfl (by rfl)) (by rfl) | (simp only [seg_len, cellsS, List.length_append, List.length_cons, List.length_nil]; done) | (simp only [seg_len, cellsS, List.length_append, List.length_cons, List.length_nil]; rfl)) rfl ?_
          refine preb 1 ((List.map ew y4.1.2.1.l).flatten) rfl (by first | rfl | exact (List.append_nil _).symm | exact List.append_nil _ | exact List.append_assoc _ _ _ | exact (List.append_assoc _ _ _).symm | exact congrArg _ (List.append_nil _).symm | exact congrArg _ (List.append_nil _) | (simp; done) | (simp [cellsS]; done)) ?_
          refine xpval 5 rfl (pv_assign rfl) rfl rfl (by kernel_rfl) (by kernel_rfl) (by kernel_rfl) (fun _ _ _ _ h => h) ?_
          refine xpval 6 rfl (pv_assign rfl) rfl rfl (by kernel_rfl) (by kernel_rfl) (by kernel_rfl) (fun _ _ _ _ h => h) ?_
          exact xpuse key38 rfl ⟨(.cons rfl (.refl _) (.cons rfl (.refl _) (.cons rfl (.refl _) (.nil _)))), (SubM.of (.drop (.keep rfl rfl (.refl _) (.nil _))) (.nil _))⟩ rfl (by kernel_rfl)
        · refine ⟨_, rfl, ?_⟩
          refine wstoreP 1 [] ((List.map ew ((Arr.rep 4 (0 : UInt64))).l).flatten) [] (by first | rfl | exact (List.append_nil _).symm | exact List.append_nil _ | exact List.append_assoc _ _ _ | exact (List.append_assoc _ _ _).symm | exact congrArg _ (List.append_nil _).symm | exact congrArg _ (List.append_nil _) | (simp; done) | (simp [cellsS]; done)) (by first | rfl | exact seg_lenE (by rfl) | exact len_app rfl (seg_lenE (by rfl)) (by rfl) | exact len_app (seg_lenE (by rfl)) rfl (by rfl) | exact len_app rfl (len_app (seg_lenE (by rfl)) rfl (by rfl)) (by rfl) | (simp only [seg_len, cellsS, List.length_append, List.length_cons, List.length_nil]; done) | (simp only [seg_len, cellsS, List.length_append, List.length_cons, List.length_nil]; rfl)) (by first | rfl | exact seg_lenE (by rfl) | exact len_app rfl (seg_lenE (by rfl)) (by rfl) | exact len_app (seg_lenE (by rfl)) rfl (by rfl) | exact len_app rfl (len_app (seg_lenE (by rfl)) rfl (by rfl)) (by rfl) | (simp only [seg_len, cellsS, List.length_append, List.length_cons, List.length_nil]; done) | (simp only [seg_len, cellsS, List.length_append, List.length_cons, List.length_nil]; rfl)) ShpC.h rfl rfl rfl rfl (by first | rfl | exact seg_lenE (by rfl) | exact len_app rfl (seg_lenE (by rfl)) (by rfl) | exact len_app (seg_lenE (by rfl)) rfl (by rfl) | exact len_app rfl (len_app (seg_lenE (by rfl)) rfl (by rfl)) (by rfl) | (simp only [seg_len, cellsS, List.length_append, List.length_cons, List.length_nil]; done) | (simp only [seg_len, cellsS, List.length_append, List.length_cons, List.length_nil]; rfl)) rfl ?_
          refine preb 1 ((List.map ew y4.1.2.1.l).flatten) rfl (by first | rfl | exact (List.append_nil _).symm | exact List.append_nil _ | exact List.append_assoc _ _ _ | exact (List.append_assoc _ _ _).symm | exact congrArg _ (List.append_nil _).symm | exact congrArg _ (List.append_nil _) | (simp; done) | (simp [cellsS]; done)) ?_
          refine xpvalE 3 [] rfl (qv_loadP 0 ([.v (.int .u8 ((y4.1.1.toNat : Int)))] ++ ((List.map ew y4.1.2.1.l).flatten ++ [.v (.bool y4.1.2.2.1)])) [.v (.int .i64 y4.1.2.2.2)] [] (by first | rfl | exact (List.append_nil _).symm | exact List.append_nil _ | exact List.append_assoc _ _ _ | exact (List.append_assoc _ _ _).symm | exact congrArg _ (List.append_nil _).symm | exact congrArg _ (List.append_nil _) | (simp; done) | (simp [cellsS]; done)) (by first | rfl | exact seg_lenE (by rfl) | exact len_app rfl (seg_lenE (by rfl)) (by rfl) | exact len_app (seg_lenE (by rfl)) rfl (by rfl) | exact len_app rfl (len_app (seg_lenE (by rfl)) rfl (by rfl)) (by rfl) | (simp only [seg_len, cellsS, List.length_append, List.length_cons, List.length_nil]; done) | (simp only [seg_len, cellsS, List.length_append, List.length_cons, List.length_nil]; rfl)) (by first | rfl | exact seg_lenE (by rfl) | exact len_app rfl (seg_lenE (by rfl)) (by rfl) | exact len_app (seg_lenE (by rfl)) rfl (by rfl) | exact len_app rfl (len_app (seg_lenE (by rfl)) rfl (by rfl)) (by rfl) | (simp only [seg_len, cellsS, List.length_append, List.length_cons, List.length_nil]; done) | (simp only [seg_len, cellsS, List.length_append, List.length_cons, List.length_nil]; rfl)) rfl ShpC.h rfl rfl) rfl rfl (by kernel_rfl) (by kernel_rfl) (by kernel_rfl) (fun _ _ _ _ h => h) ?_
          refine xpval 5 rfl (pv_assign rfl) rfl rfl (by kernel_rfl) (by kernel_rfl) (by kernel_rfl) (fun _ _ _ _ h => h) ?_
          refine xpval 6 rfl (pv_assign rfl) rfl rfl (by kernel_rfl) (by kernel_rfl) (by kernel_rfl) (fun _ _ _ _ h => h) ?_
          exact xpuse key38 rfl ⟨(.cons rfl (.refl _) (.cons rfl (.refl _) (.cons rfl (.refl _) (.nil _)))), (SubM.of (.drop (.keep rfl rfl (.refl _) (.nil _))) (.nil _))⟩ rfl (by kernel_rfl)
      · replace h := h.2 hp36
        refine xcondF' (b_f hp36) rfl ?_
        refine xskipc ?_
        refine xthen ?_
        refine xseq ?_
        refine xregionD (m := 9) (by kernel_rfl) rfl ?_
        obtain ⟨y46, h45, h⟩ := h
        refine xpcut 0 #[true, true, true, true, true, true, true, true, true] (fun σ => σ = ⟨[(4, .v (.pointer (some ⟨b4, 0, none⟩))), (5, .v (.int .i64 y4.1.2.2.2)), (6, .v (.int .i64 0))], [⟨b4, 26, ((List.map ew y46.l).flatten)⟩], []⟩) ?_ (fun key47 => ?_)
        · rintro _ rfl
          refine xpdone (by kernel_rfl) ?_
          refine xthen ?_
          refine xretc ?_
          refine xthen_ret ?_
          replace h := h.symm
          subst h
          exact xretL (rs := [.cell 4 26, .tmp 5, .tmp 6]) (ss := [.agg ((List.map ew y46.l).flatten), .v (.int .i64 y4.1.2.2.2), .v (.int .i64 0)]) hg rfl (by refine RetL.cell 0 ShpC.h rfl rfl (part_midE (pre := []) (mid := ((List.map ew y46.l).flatten)) (post := []) (by first | rfl | exact (List.append_nil _).symm | exact List.append_nil _ | exact List.append_assoc _ _ _ | exact (List.append_assoc _ _ _).symm | exact congrArg _ (List.append_nil _).symm | exact congrArg _ (List.append_nil _) | (simp; done) | (simp [cellsS]; done)) (by first | rfl | exact seg_lenE (by rfl) | exact len_app rfl (seg_lenE (by rfl)) (by rfl) | exact len_app (seg_lenE (by rfl)) rfl (by rfl) | exact len_app rfl (len_app (seg_lenE (by rfl)) rfl (by rfl)) (by rfl) | (simp only [seg_len, cellsS, List.length_append, List.length_cons, List.length_nil]; done) | (simp only [seg_len, cellsS, List.length_append, List.length_cons, List.length_nil]; rfl)) (by first | rfl | exact seg_lenE (by rfl) | exact len_app rfl (seg_lenE (by rfl)) (by rfl) | exact len_app (seg_lenE (by rfl)) rfl (by rfl) | exact len_app rfl (len_app (seg_lenE (by rfl)) rfl (by rfl)) (by rfl) | (simp only [seg_len, cellsS, List.length_append, List.length_cons, List.length_nil]; done) | (simp only [seg_len, cellsS, List.length_append, List.length_cons, List.length_nil]; rfl)) (part_all (seg_lenE (by rfl)))) (len_midE (pre := []) (mid := ((List.map ew y46.l).flatten)) (post := []) (by first | rfl | exact (List.append_nil _).symm | exact List.append_nil _ | exact List.append_assoc _ _ _ | exact (List.append_assoc _ _ _).symm | exact congrArg _ (List.append_nil _).symm | exact congrArg _ (List.append_nil _) | (simp; done) | (simp [cellsS]; done)) (by first | rfl | exact seg_lenE (by rfl) | exact len_app rfl (seg_lenE (by rfl)) (by rfl) | exact len_app (seg_lenE (by rfl)) rfl (by rfl) | exact len_app rfl (len_app (seg_lenE (by rfl)) rfl (by rfl)) (by rfl) | (simp only [seg_len, cellsS, List.length_append, List.length_cons, List.length_nil]; done) | (simp only [seg_len, cellsS, List.length_append, List.length_cons, List.length_nil]; rfl)) (by first | rfl | exact seg_lenE (by rfl) | exact len_app rfl (seg_lenE (by rfl)) (by rfl) | exact len_app (seg_lenE (by rfl)) rfl (by rfl) | exact len_app rfl (len_app (seg_lenE (by rfl)) rfl (by rfl)) (by rfl) | (simp only [seg_len, cellsS, List.length_append, List.length_cons, List.length_nil]; done) | (simp only [seg_len, cellsS, List.length_append, List.length_cons, List.length_nil]; rfl))) (by first | with_reducible exact Wk.refl _ | exact Wk.nil_own _ | exact Wk.nil_pl _ | with_reducible exact Wk.tok _ _ _ | exact Wk.tok _ _ _ | exact .eq rfl) ?_; refine RetL.tmp rfl (.refl _) ?_; refine RetL.tmp rfl (.refl _) ?_; exact RetL.nil) (SubM.of (.nil _) (.nil _)) ⟨rfl, rfl, rfl⟩
        refine xpcut 3 #[true, true, true, true, true, true, false, false, false] (fun σ => σ = ⟨[(4, .v (.pointer (some ⟨b4, 0, none⟩))), (5, .v (.int .i64 0)), (6, .v (.int .i64 0)), (34, .agg ((List.map ew y46.l).flatten)), (36, .v (.int .i64 y4.1.2.2.2))], [⟨b4, 26, ((List.map ew ((Arr.rep 4 (0 : UInt64))).l).flatten)⟩], []⟩) ?_ (fun key48 => ?_)
        · rintro _ rfl
          refine xpstep (i := 6) (by kernel_rfl) rfl ?_
          refine wstoreP 0 [] ((List.map ew ((Arr.rep 4 (0 : UInt64))).l).flatten) [] (by first | rfl | exact (List.append_nil _).symm | exact List.append_nil _ | exact List.append_assoc _ _ _ | exact (List.append_assoc _ _ _).symm | exact congrArg _ (List.append_nil _).symm | exact congrArg _ (List.append_nil _) | (simp; done) | (simp [cellsS]; done)) (by first | rfl | exact seg_lenE (by rfl) | exact len_app rfl (seg_lenE (by rfl)) (by rfl) | exact len_app (seg_lenE (by rfl)) rfl (by rfl) | exact len_app rfl (len_app (seg_lenE (by rfl)) rfl (by rfl)) (by rfl) | (simp only [seg_len, cellsS, List.length_append, List.length_cons, List.length_nil]; done) | (simp only [seg_len, cellsS, List.length_append, List.length_cons, List.length_nil]; rfl)) (by first | rfl | exact seg_lenE (by rfl) | exact len_app rfl (seg_lenE (by rfl)) (by rfl) | exact len_app (seg_lenE (by rfl)) rfl (by rfl) | exact len_app rfl (len_app (seg_lenE (by rfl)) rfl (by rfl)) (by rfl) | (simp only [seg_len, cellsS, List.length_append, List.length_cons, List.length_nil]; done) | (simp only [seg_len, cellsS, List.length_append, List.length_cons, List.length_nil]; rfl)) ShpC.h rfl rfl rfl rfl (by first | rfl | exact seg_lenE (by rfl) | exact len_app rfl (seg_lenE (by rfl)) (by rfl) | exact len_app (seg_lenE (by rfl)) rfl (by rfl) | exact len_app rfl (len_app (seg_lenE (by rfl)) rfl (by rfl)) (by rfl) | (simp only [seg_len, cellsS, List.length_append, List.length_cons, List.length_nil]; done) | (simp only [seg_len, cellsS, List.length_append, List.length_cons, List.length_nil]; rfl)) rfl ?_
          refine preb 0 ((List.map ew y46.l).flatten) rfl (by first | rfl | exact (List.append_nil _).symm | exact List.append_nil _ | exact List.append_assoc _ _ _ | exact (List.append_assoc _ _ _).symm | exact congrArg _ (List.append_nil _).symm | exact congrArg _ (List.append_nil _) | (simp; done) | (simp [cellsS]; done)) ?_
          refine xpval 7 rfl (pv_assign rfl) rfl rfl (by kernel_rfl) (by kernel_rfl) (by kernel_rfl) (fun _ _ _ _ h => h) ?_
          refine xpval 8 rfl (pv_assign rfl) rfl rfl (by kernel_rfl) (by kernel_rfl) (by kernel_rfl) (fun _ _ _ _ h => h) ?_
          exact xpuse key47 rfl ⟨(.cons rfl (.refl _) (.cons rfl (.refl _) (.cons rfl (.refl _) (.nil _)))), (SubM.of (.keep rfl rfl (.refl _) (.nil _)) (.nil _))⟩ rfl (by kernel_rfl)
        refine xpcut 4 #[true, true, true, false, true, true, false, false, false] (fun σ => ∃ (i49 : Option (Nat × Nat)), σ = ⟨[(4, .v (.pointer (some ⟨b4, 0, none⟩))), (5, .v (.int .i64 0)), (6, .v (.int .i64 0)), (33, .sl 1 (some i49) (List.map eb ([y4.1.1]))), (36, .v (.int .i64 y4.1.2.2.2))], [⟨b4, 26, ((List.map ew ((Arr.rep 4 (0 : UInt64))).l).flatten)⟩], [⟨i49, 5, 1, ([y4.1.1]).length⟩]⟩) ?_ (fun key50 => ?_)
        · rintro _ ⟨i49, rfl⟩
          refine xpstep (i := 3) (by kernel_rfl) rfl ?_
          refine wcall0 (class_Of_con ([y4.1.1]) _ h45) Try.func15 (by kernel_rfl) rfl (.cons rfl (.tok _ _ _) .nil) rfl rfl ?_
          exact xpuse key48 rfl ⟨(.cons rfl (.refl _) (.cons rfl (.refl _) (.cons rfl (.refl _) (.cons rfl (.refl _) (.cons rfl (.refl _) (.nil _)))))), (SubM.of (.keep rfl rfl (.refl _) (.nil _)) (.nil _))⟩ rfl (by kernel_rfl)
        refine xpval 0 rfl (qv_fieldAddrB FldC.h rfl) rfl rfl (by kernel_rfl) (by kernel_rfl) (by kernel_rfl) (fun _ _ _ _ h => h) ?_
        refine xpval 4 rfl (qv_fieldAddrB FldC.h rfl) rfl rfl (by kernel_rfl) (by kernel_rfl) (by kernel_rfl) (fun _ _ _ _ h => h) ?_
        refine xpvalE 1 [5] rfl (qv_loadB 0 ShpC.h rfl rfl rfl rfl) rfl rfl (by kernel_rfl) (by kernel_rfl) (by kernel_rfl) (fun _ _ _ _ h => h) ?_
        refine xpstepN (is := [2, 5]) (by kernel_rfl) (by simp) ?_
        intro i hi; simp only [List.mem_cons, List.not_mem_nil, or_false] at hi; rcases hi with rfl | rfl
        · refine ⟨_, rfl, ?_⟩
          refine wbuildSliceM (f := eb) [y4.1.1] UndC.h InfC.h rfl rfl (by first | exact wkR_of rfl | (repeat (first | exact WkR.nil | refine WkR.cons (by (repeat (first | exact WkL.nil | refine WkL.cons (by first | with_reducible exact Wk.refl _ | exact Wk.nil_own _ | exact Wk.nil_pl _ | with_reducible exact Wk.tok _ _ _ | exact Wk.tok _ _ _ | exact Wk.eq (by first | rfl | (simp []; done) | (simp []; omega))) ?_))) ?_))) rfl rfl rfl rfl fun s33 => ?_
          refine xpstepN (is := [3, 5]) (by kernel_rfl) (by simp) ?_
          intro i hi; simp only [List.mem_cons, List.not_mem_nil, or_false] at hi; rcases hi with rfl | rfl
          · refine ⟨_, rfl, ?_⟩
            refine wcall0 (class_Of_con ([y4.1.1]) _ h45) Try.func15 (by kernel_rfl) rfl (.cons rfl (.tok _ _ _) .nil) rfl rfl ?_
            refine xpstepN (is := [5, 6]) (by kernel_rfl) (by simp) ?_
            intro i hi; simp only [List.mem_cons, List.not_mem_nil, or_false] at hi; rcases hi with rfl | rfl
            · refine ⟨_, rfl, ?_⟩
              refine wval (qv_loadP 0 ([.v (.int .u8 ((y4.1.1.toNat : Int)))] ++ ((List.map ew y4.1.2.1.l).flatten ++ [.v (.bool y4.1.2.2.1)])) [.v (.int .i64 y4.1.2.2.2)] [] (by first | rfl | exact (List.append_nil _).symm | exact List.append_nil _ | exact List.append_assoc _ _ _ | exact (List.append_assoc _ _ _).symm | exact congrArg _ (List.append_nil _).symm | exact congrArg _ (List.append_nil _) | (simp; done) | (simp [cellsS]; done)) (by first | rfl | exact seg_lenE (by rfl) | exact len_app rfl (seg_lenE (by rfl)) (by rfl) | exact len_app (seg_lenE (by rfl)) rfl (by rfl) | exact len_app rfl (len_app (seg_lenE (by rfl)) rfl (by rfl)) (by rfl) | (simp only [seg_len, cellsS, List.length_append, List.length_cons, List.length_nil]; done) | (simp only [seg_len, cellsS, List.length_append, List.length_cons, List.length_nil]; rfl)) (by first | rfl | exact seg_lenE (by rfl) | exact len_app rfl (seg_lenE (by rfl)) (by rfl) | exact len_app (seg_lenE (by rfl)) rfl (by rfl) | exact len_app rfl (len_app (seg_lenE (by rfl)) rfl (by rfl)) (by rfl) | (simp only [seg_len, cellsS, List.length_append, List.length_cons, List.length_nil]; done) | (simp only [seg_len, cellsS, List.length_append, List.length_cons, List.length_nil]; rfl)) rfl ShpC.h rfl rfl) rfl rfl ?_
              exact xpuse key48 rfl ⟨(.cons rfl (.refl _) (.cons rfl (.refl _) (.cons rfl (.refl _) (.cons rfl (.refl _) (.cons rfl (.refl _) (.nil _)))))), (SubM.of (.drop (.keep rfl rfl (.refl _) (.nil _))) (.nil _))⟩ rfl (by kernel_rfl)
            · refine ⟨_, rfl, ?_⟩
              refine wstoreP 1 [] ((List.map ew ((Arr.rep 4 (0 : UInt64))).l).flatten) [] (by first | rfl | exact (List.append_nil _).symm | exact List.append_nil _ | exact List.append_assoc _ _ _ | exact (List.append_assoc _ _ _).symm | exact congrArg _ (List.append_nil _).symm | exact congrArg _ (List.append_nil _) | (simp; done) | (simp [cellsS]; done)) (by first | rfl | exact seg_lenE (by rfl) | exact len_app rfl (seg_lenE (by rfl)) (by rfl) | exact len_app (seg_lenE (by rfl)) rfl (by rfl) | exact len_app rfl (len_app (seg_lenE (by rfl)) rfl (by rfl)) (by rfl) | (simp only [seg_len, cellsS, List.length_append, List.length_cons, List.length_nil]; done) | (simp only [seg_len, cellsS, List.length_append, List.length_cons, List.length_nil]; rfl)) (by first | rfl | exact seg_lenE (by rfl) | exact len_app rfl (seg_lenE (by rfl)) (by rfl) | exact len_app (seg_lenE (by rfl)) rfl (by rfl) | exact len_app rfl (len_app (seg_lenE (by rfl)) rfl (by rfl)) (by rfl) | (simp only [seg_len, cellsS, List.length_append, List.length_cons, List.length_nil]; done) | (simp only [seg_len, cellsS, List.length_append, List.length_cons, List.length_nil]; rfl)) ShpC.h rfl rfl rfl rfl (by first | rfl | exact seg_lenE (by rfl) | exact len_app rfl (seg_lenE (by rfl)) (by rfl) | exact len_app (seg_lenE (by rfl)) rfl (by rfl) | exact len_app rfl (len_app (seg_lenE (by rfl)) rfl (by rfl)) (by rfl) | (simp only [seg_len, cellsS, List.length_append, List.length_cons, List.length_nil]; done) | (simp only [seg_len, cellsS, List.length_append, List.length_cons, List.length_nil]; rfl)) rfl ?_
              refine preb 1 ((List.map ew y46.l).flatten) rfl (by first | rfl | exact (List.append_nil _).symm | exact List.append_nil _ | exact List.append_assoc _ _ _ | exact (List.append_assoc _ _ _).symm | exact congrArg _ (List.append_nil _).symm | exact congrArg _ (List.append_nil _) | (simp; done) | (simp [cellsS]; done)) ?_
              refine xpvalE 5 [] rfl (qv_loadP 0 ([.v (.int .u8 ((y4.1.1.toNat : Int)))] ++ ((List.map ew y4.1.2.1.l).flatten ++ [.v (.bool y4.1.2.2.1)])) [.v (.int .i64 y4.1.2.2.2)] [] (by first | rfl | exact (List.append_nil _).symm | exact List.append_nil _ | exact List.append_assoc _ _ _ | exact (List.append_assoc _ _ _).symm | exact congrArg _ (List.append_nil _).symm | exact congrArg _ (List.append_nil _) | (simp; done) | (simp [cellsS]; done)) (by first | rfl | exact seg_lenE (by rfl) | exact len_app rfl (seg_lenE (by rfl)) (by rfl) | exact len_app (seg_lenE (by rfl)) rfl (by rfl) | exact len_app rfl (len_app (seg_lenE (by rfl)) rfl (by rfl)) (by rfl) | (simp only [seg_len, cellsS, List.length_append, List.length_cons, List.length_nil]; done) | (simp only [seg_len, cellsS, List.length_append, List.length_cons, List.length_nil]; rfl)) (by first | rfl | exact seg_lenE (by rfl) | exact len_app rfl (seg_lenE (by rfl)) (by rfl) | exact len_app (seg_lenE (by rfl)) rfl (by rfl) | exact len_app rfl (len_app (seg_lenE (by rfl)) rfl (by rfl)) (by rfl) | (simp only [seg_len, cellsS, List.length_append, List.length_cons, List.length_nil]; done) | (simp only [seg_len, cellsS, List.length_append, List.length_cons, List.length_nil]; rfl)) rfl ShpC.h rfl rfl) rfl rfl (by kernel_rfl) (by kernel_rfl) (by kernel_rfl) (fun _ _ _ _ h => h) ?_
              refine xpval 7 rfl (pv_assign rfl) rfl rfl (by kernel_rfl) (by kernel_rfl) (by kernel_rfl) (fun _ _ _ _ h => h) ?_
              refine xpval 8 rfl (pv_assign rfl) rfl rfl (by kernel_rfl) (by kernel_rfl) (by kernel_rfl) (fun _ _ _ _ h => h) ?_
              exact xpuse key47 rfl ⟨(.cons rfl (.refl _) (.cons rfl (.refl _) (.cons rfl (.refl _) (.nil _)))), (SubM.of (.drop (.keep rfl rfl (.refl _) (.nil _))) (.nil _))⟩ rfl (by kernel_rfl)
          · refine ⟨_, rfl, ?_⟩
            refine wval (qv_loadP 0 ([.v (.int .u8 ((y4.1.1.toNat : Int)))] ++ ((List.map ew y4.1.2.1.l).flatten ++ [.v (.bool y4.1.2.2.1)])) [.v (.int .i64 y4.1.2.2.2)] [] (by first | rfl | exact (List.append_nil _).symm | exact List.append_nil _ | exact List.append_assoc _ _ _ | exact (List.append_assoc _ _ _).symm | exact congrArg _ (List.append_nil _).symm | exact congrArg _ (List.append_nil _) | (simp; done) | (simp [cellsS]; done)) (by first | rfl | exact seg_lenE (by rfl) | exact len_app rfl (seg_lenE (by rfl)) (by rfl) | exact len_app (seg_lenE (by rfl)) rfl (by rfl) | exact len_app rfl (len_app (seg_lenE (by rfl)) rfl (by rfl)) (by rfl) | (simp only [seg_len, cellsS, List.length_append, List.length_cons, List.length_nil]; done) | (simp only [seg_len, cellsS, List.length_append, List.length_cons, List.length_nil]; rfl)) (by first | rfl | exact seg_lenE (by rfl) | exact len_app rfl (seg_lenE (by rfl)) (by rfl) | exact len_app (seg_lenE (by rfl)) rfl (by rfl) | exact len_app rfl (len_app (seg_lenE (by rfl)) rfl (by rfl)) (by rfl) | (simp only [seg_len, cellsS, List.length_append, List.length_cons, List.length_nil]; done) | (simp only [seg_len, cellsS, List.length_append, List.length_cons, List.length_nil]; rfl)) rfl ShpC.h rfl rfl) rfl rfl ?_
            exact xpuse key50 ⟨(some (s33, 1)), rfl⟩ ⟨(.cons rfl (.refl _) (.cons rfl (.refl _) (.cons rfl (.refl _) (.cons rfl (.refl _) (.cons rfl (.refl _) (.nil _)))))), (SubM.of (.drop (.keep rfl rfl (.refl _) (.nil _))) (.keep rfl (.nil _)))⟩ rfl (by kernel_rfl)
        · refine ⟨_, rfl, ?_⟩
          refine wval (qv_loadP 0 ([.v (.int .u8 ((y4.1.1.toNat : Int)))] ++ ((List.map ew y4.1.2.1.l).flatten ++ [.v (.bool y4.1.2.2.1)])) [.v (.int .i64 y4.1.2.2.2)] [] (by first | rfl | exact (List.append_nil _).symm | exact List.append_nil _ | exact List.append_assoc _ _ _ | exact (List.append_assoc _ _ _).symm | exact congrArg _ (List.append_nil _).symm | exact congrArg _ (List.append_nil _) | (simp; done) | (simp [cellsS]; done)) (by first | rfl | exact seg_lenE (by rfl) | exact len_app rfl (seg_lenE (by rfl)) (by rfl) | exact len_app (seg_lenE (by rfl)) rfl (by rfl) | exact len_app rfl (len_app (seg_lenE (by rfl)) rfl (by rfl)) (by rfl) | (simp only [seg_len, cellsS, List.length_append, List.length_cons, List.length_nil]; done) | (simp only [seg_len, cellsS, List.length_append, List.length_cons, List.length_nil]; rfl)) (by first | rfl | exact seg_lenE (by rfl) | exact len_app rfl (seg_lenE (by rfl)) (by rfl) | exact len_app (seg_lenE (by rfl)) rfl (by rfl) | exact len_app rfl (len_app (seg_lenE (by rfl)) rfl (by rfl)) (by rfl) | (simp only [seg_len, cellsS, List.length_append, List.length_cons, List.length_nil]; done) | (simp only [seg_len, cellsS, List.length_append, List.length_cons, List.length_nil]; rfl)) rfl ShpC.h rfl rfl) rfl rfl ?_
          refine xpstep (i := 2) (by kernel_rfl) rfl ?_
          refine wbuildSliceM (f := eb) [y4.1.1] UndC.h InfC.h rfl rfl (by first | exact wkR_of rfl | (repeat (first | exact WkR.nil | refine WkR.cons (by (repeat (first | exact WkL.nil | refine WkL.cons (by first | with_reducible exact Wk.refl _ | exact Wk.nil_own _ | exact Wk.nil_pl _ | with_reducible exact Wk.tok _ _ _ | exact Wk.tok _ _ _ | exact Wk.eq (by first | rfl | (simp []; done) | (simp []; omega))) ?_))) ?_))) rfl rfl rfl rfl fun s33 => ?_
          exact xpuse key50 ⟨(some (s33, 1)), rfl⟩ ⟨(.cons rfl (.refl _) (.cons rfl (.refl _) (.cons rfl (.refl _) (.cons rfl (.refl _) (.cons rfl (.refl _) (.nil _)))))), (SubM.of (.drop (.keep rfl rfl (.refl _) (.nil _))) (.keep rfl (.nil _)))⟩ rfl (by kernel_rfl)
    · replace h := h.2 hp32
      refine xcondF' (not_f (Decidable.of_not_not hp32)) rfl ?_
      refine xskipc ?_
      refine xthen ?_
      refine xseq ?_
      refine xseq ?_
      refine xregion ?_
      refine xvalP (qv_fieldAddrB FldC.h rfl) rfl rfl ?_
      refine xval (qv_loadP 0 ([.v (.int .u8 ((y4.1.1.toNat : Int)))] ++ (List.map ew y4.1.2.1.l).flatten) [.v (.bool y4.1.2.2.1)] [.v (.int .i64 y4.1.2.2.2)] (by first | rfl | exact (List.append_nil _).symm | exact List.append_nil _ | exact List.append_assoc _ _ _ | exact (List.append_assoc _ _ _).symm | exact congrArg _ (List.append_nil _).symm | exact congrArg _ (List.append_nil _) | (simp; done) | (simp [cellsS]; done)) (by first | rfl | exact seg_lenE (by rfl) | exact len_app rfl (seg_lenE (by rfl)) (by rfl) | exact len_app (seg_lenE (by rfl)) rfl (by rfl) | exact len_app rfl (len_app (seg_lenE (by rfl)) rfl (by rfl)) (by rfl) | (simp only [seg_len, cellsS, List.length_append, List.length_cons, List.length_nil]; done) | (simp only [seg_len, cellsS, List.length_append, List.length_cons, List.length_nil]; rfl)) (by first | rfl | exact seg_lenE (by rfl) | exact len_app rfl (seg_lenE (by rfl)) (by rfl) | exact len_app (seg_lenE (by rfl)) rfl (by rfl) | exact len_app rfl (len_app (seg_lenE (by rfl)) rfl (by rfl)) (by rfl) | (simp only [seg_len, cellsS, List.length_append, List.length_cons, List.length_nil]; done) | (simp only [seg_len, cellsS, List.length_append, List.length_cons, List.length_nil]; rfl)) rfl ShpC.h rfl rfl) rfl rfl ?_
      refine xnil ?_
      refine xthen ?_
      by_cases hp52 : y4.1.2.2.1 = true
      · replace h := h.1 hp52
        refine xcondT' hp52 rfl ?_
        refine xseq ?_
        refine xregion ?_
        refine xvalP (pv_buildAC (cs := ((List.map ew ((Arr.rep 4 (0 : UInt64))).l).flatten)) UndC.h ShpC.h InfC.h rfl (by rfl)) rfl rfl ?_
        refine xstoreP 1 [] ((List.map ew ((Arr.rep 4 (0 : UInt64))).l).flatten) [] (by first | rfl | exact (List.append_nil _).symm | exact List.append_nil _ | exact List.append_assoc _ _ _ | exact (List.append_assoc _ _ _).symm | exact congrArg _ (List.append_nil _).symm | exact congrArg _ (List.append_nil _) | (simp; done) | (simp [cellsS]; done)) (by first | rfl | exact seg_lenE (by rfl) | exact len_app rfl (seg_lenE (by rfl)) (by rfl) | exact len_app (seg_lenE (by rfl)) rfl (by rfl) | exact len_app rfl (len_app (seg_lenE (by rfl)) rfl (by rfl)) (by rfl) | (simp only [seg_len, cellsS, List.length_append, List.length_cons, List.length_nil]; done) | (simp only [seg_len, cellsS, List.length_append, List.length_cons, List.length_nil]; rfl)) (by first | rfl | exact seg_lenE (by rfl) | exact len_app rfl (seg_lenE (by rfl)) (by rfl) | exact len_app (seg_lenE (by rfl)) rfl (by rfl) | exact len_app rfl (len_app (seg_lenE (by rfl)) rfl (by rfl)) (by rfl) | (simp only [seg_len, cellsS, List.length_append, List.length_cons, List.length_nil]; done) | (simp only [seg_len, cellsS, List.length_append, List.length_cons, List.length_nil]; rfl)) ShpC.h rfl rfl rfl rfl (by first | rfl | exact seg_lenE (by rfl) | exact len_app rfl (seg_lenE (by rfl)) (by rfl) | exact len_app (seg_lenE (by rfl)) rfl (by rfl) | exact len_app rfl (len_app (seg_lenE (by rfl)) rfl (by rfl)) (by rfl) | (simp only [seg_len, cellsS, List.length_append, List.length_cons, List.length_nil]; done) | (simp only [seg_len, cellsS, List.length_append, List.length_cons, List.length_nil]; rfl)) rfl ?_
        refine xreb 1 ((List.map ew ((Arr.rep 4 (0 : UInt64))).l).flatten) rfl (by first | rfl | exact (List.append_nil _).symm | exact List.append_nil _ | exact List.append_assoc _ _ _ | exact (List.append_assoc _ _ _).symm | exact congrArg _ (List.append_nil _).symm | exact congrArg _ (List.append_nil _) | (simp; done) | (simp [cellsS]; done)) ?_
        refine xvalP (pv_assign rfl) rfl rfl ?_
        refine xvalP (pv_assign rfl) rfl rfl ?_
        refine xnil ?_
        refine xthen ?_
        refine xretc ?_
        refine xthen_ret ?_
        replace h := h.symm
        subst h
        exact xretL (rs := [.cell 4 26, .tmp 5, .tmp 6]) (ss := [.agg ((List.map ew ((Arr.rep 4 (0 : UInt64))).l).flatten), .v (.int .i64 0), .v (.int .i64 3)]) hg rfl (by refine RetL.cell 1 ShpC.h rfl rfl (part_midE (pre := []) (mid := ((List.map ew ((Arr.rep 4 (0 : UInt64))).l).flatten)) (post := []) (by first | rfl | exact (List.append_nil _).symm | exact List.append_nil _ | exact List.append_assoc _ _ _ | exact (List.append_assoc _ _ _).symm | exact congrArg _ (List.append_nil _).symm | exact congrArg _ (List.append_nil _) | (simp; done) | (simp [cellsS]; done)) (by first | rfl | exact seg_lenE (by rfl) | exact len_app rfl (seg_lenE (by rfl)) (by rfl) | exact len_app (seg_lenE (by rfl)) rfl (by rfl) | exact len_app rfl (len_app (seg_lenE (by rfl)) rfl (by rfl)) (by rfl) | (simp only [seg_len, cellsS, List.length_append, List.length_cons, List.length_nil]; done) | (simp only [seg_len, cellsS, List.length_append, List.length_cons, List.length_nil]; rfl)) (by first | rfl | exact seg_lenE (by rfl) | exact len_app rfl (seg_lenE (by rfl)) (by rfl) | exact len_app (seg_lenE (by rfl)) rfl (by rfl) | exact len_app rfl (len_app (seg_lenE (by rfl)) rfl (by rfl)) (by rfl) | (simp only [seg_len, cellsS, List.length_append, List.length_cons, List.length_nil]; done) | (simp only [seg_len, cellsS, List.length_append, List.length_cons, List.length_nil]; rfl)) (part_all (seg_lenE (by rfl)))) (len_midE (pre := []) (mid := ((List.map ew ((Arr.rep 4 (0 : UInt64))).l).flatten)) (post := []) (by first | rfl | exact (List.append_nil _).symm | exact List.append_nil _ | exact List.append_assoc _ _ _ | exact (List.append_assoc _ _ _).symm | exact congrArg _ (List.append_nil _).symm | exact congrArg _ (List.append_nil _) | (simp; done) | (simp [cellsS]; done)) (by first | rfl | exact seg_lenE (by rfl) | exact len_app rfl (seg_lenE (by rfl)) (by rfl) | exact len_app (seg_lenE (by rfl)) rfl (by rfl) | exact len_app rfl (len_app (seg_lenE (by rfl)) rfl (by rfl)) (by rfl) | (simp only [seg_len, cellsS, List.length_append, List.length_cons, List.length_nil]; done) | (simp only [seg_len, cellsS, List.length_append, List.length_cons, List.length_nil]; rfl)) (by first | rfl | exact seg_lenE (by rfl) | exact len_app rfl (seg_lenE (by rfl)) (by rfl) | exact len_app (seg_lenE (by rfl)) rfl (by rfl) | exact len_app rfl (len_app (seg_lenE (by rfl)) rfl (by rfl)) (by rfl) | (simp only [seg_len, cellsS, List.length_append, List.length_cons, List.length_nil]; done) | (simp only [seg_len, cellsS, List.length_append, List.length_cons, List.length_nil]; rfl))) (by first | with_reducible exact Wk.refl _ | exact Wk.nil_own _ | exact Wk.nil_pl _ | with_reducible exact Wk.tok _ _ _ | exact Wk.tok _ _ _ | exact .eq rfl) ?_; refine RetL.tmp rfl (.refl _) ?_; refine RetL.tmp rfl (.refl _) ?_; exact RetL.nil) (SubM.of (.nil _) (.nil _)) ⟨rfl, rfl, rfl⟩
      · replace h := h.2 hp52
        refine xcondF' (b_f hp52) rfl ?_
        refine xskipc ?_
        refine xthen ?_
        refine xseq ?_
        refine xregion ?_
        refine xvalP (pv_move rfl) rfl rfl ?_
        refine xvalP (qv_fieldAddrB FldC.h rfl) rfl rfl ?_
        refine xval (qv_loadP 0 ([.v (.int .u8 ((y4.1.1.toNat : Int)))] ++ ((List.map ew y4.1.2.1.l).flatten ++ [.v (.bool y4.1.2.2.1)])) [.v (.int .i64 y4.1.2.2.2)] [] (by first | rfl | exact (List.append_nil _).symm | exact List.append_nil _ | exact List.append_assoc _ _ _ | exact (List.append_assoc _ _ _).symm | exact congrArg _ (List.append_nil _).symm | exact congrArg _ (List.append_nil _) | (simp; done) | (simp [cellsS]; done)) (by first | rfl | exact seg_lenE (by rfl) | exact len_app rfl (seg_lenE (by rfl)) (by rfl) | exact len_app (seg_lenE (by rfl)) rfl (by rfl) | exact len_app rfl (len_app (seg_lenE (by rfl)) rfl (by rfl)) (by rfl) | (simp only [seg_len, cellsS, List.length_append, List.length_cons, List.length_nil]; done) | (simp only [seg_len, cellsS, List.length_append, List.length_cons, List.length_nil]; rfl)) (by first | rfl | exact seg_lenE (by rfl) | exact len_app rfl (seg_lenE (by rfl)) (by rfl) | exact len_app (seg_lenE (by rfl)) rfl (by rfl) | exact len_app rfl (len_app (seg_lenE (by rfl)) rfl (by rfl)) (by rfl) | (simp only [seg_len, cellsS, List.length_append, List.length_cons, List.length_nil]; done) | (simp only [seg_len, cellsS, List.length_append, List.length_cons, List.length_nil]; rfl)) rfl ShpC.h rfl rfl) rfl rfl ?_
        obtain ⟨h53, h⟩ := h
        refine xvalP (pv_addI h53 rfl rfl) rfl rfl ?_
        obtain ⟨y55, h54, h⟩ := h
        refine xcallF (Fb := [⟨b7, 48, ([.v (.int .u8 ((y4.1.1.toNat : Int)))] ++ ((List.map ew y4.1.2.1.l).flatten ++ [.v (.bool y4.1.2.2.1), .v (.int .i64 y4.1.2.2.2)]))⟩, ⟨b4, 26, ((List.map ew ((Arr.rep 4 (0 : UInt64))).l).flatten)⟩]) (Ft := []) (brack_read_con x1 (y4.1.2.2.2 + 1) _ h54) Try.func22 (by kernel_rfl) rfl (.cons rfl (.refl _) (.cons rfl (.refl _) .nil)) (by exact (SubM.of (by repeat (first | with_reducible exact SubB.refl _ | exact SubB.nil _ | refine SubB.keep rfl rfl (by first | with_reducible exact WkL.refl _ | ((repeat (first | exact WkL.nil | refine WkL.cons (by first | with_reducible exact Wk.refl _ | exact Wk.nil_own _ | exact Wk.nil_pl _ | with_reducible exact Wk.tok _ _ _ | exact Wk.tok _ _ _ | exact Wk.eq (by first | rfl | (simp []; done) | (simp []; omega))) ?_)); done) | exact WkL.refl _) ?_ | refine SubB.drop ?_)) (by repeat (first | exact SubT.nil _ | refine SubT.add ?_ | (refine SubT.keep ?_ ?_; focus (first | with_reducible rfl | (simp []; done))) | refine SubT.drop ?_)))) rfl rfl ?_
        rintro _ _ _ ⟨rfl, rfl, rfl⟩
        simp only [List.nil_append, List.cons_append]
        refine xvalP (pv_move rfl) rfl rfl ?_
        refine xvalP (pv_extract rfl rfl) rfl rfl ?_
        refine xvalP (pv_extract rfl rfl) rfl rfl ?_
        refine xalloc InfC.h rfl rfl fun b9 => ?_
        refine xreb 0 ([.v (.int .u8 0)] ++ ((List.map ew ((Arr.rep 4 (0 : UInt64))).l).flatten ++ [.v (.bool false), .v (.int .i64 0)])) rfl rfl ?_
        refine xstoreP 0 [] ([.v (.int .u8 0)] ++ ((List.map ew ((Arr.rep 4 (0 : UInt64))).l).flatten ++ [.v (.bool false), .v (.int .i64 0)])) [] (by first | rfl | exact (List.append_nil _).symm | exact List.append_nil _ | exact List.append_assoc _ _ _ | exact (List.append_assoc _ _ _).symm | exact congrArg _ (List.append_nil _).symm | exact congrArg _ (List.append_nil _) | (simp; done) | (simp [cellsS]; done)) (by first | rfl | exact seg_lenE (by rfl) | exact len_app rfl (seg_lenE (by rfl)) (by rfl) | exact len_app (seg_lenE (by rfl)) rfl (by rfl) | exact len_app rfl (len_app (seg_lenE (by rfl)) rfl (by rfl)) (by rfl) | (simp only [seg_len, cellsS, List.length_append, List.length_cons, List.length_nil]; done) | (simp only [seg_len, cellsS, List.length_append, List.length_cons, List.length_nil]; rfl)) (by first | rfl | exact seg_lenE (by rfl) | exact len_app rfl (seg_lenE (by rfl)) (by rfl) | exact len_app (seg_lenE (by rfl)) rfl (by rfl) | exact len_app rfl (len_app (seg_lenE (by rfl)) rfl (by rfl)) (by rfl) | (simp only [seg_len, cellsS, List.length_append, List.length_cons, List.length_nil]; done) | (simp only [seg_len, cellsS, List.length_append, List.length_cons, List.length_nil]; rfl)) ShpC.h rfl rfl rfl rfl (by first | rfl | exact seg_lenE (by rfl) | exact len_app rfl (seg_lenE (by rfl)) (by rfl) | exact len_app (seg_lenE (by rfl)) rfl (by rfl) | exact len_app rfl (len_app (seg_lenE (by rfl)) rfl (by rfl)) (by rfl) | (simp only [seg_len, cellsS, List.length_append, List.length_cons, List.length_nil]; done) | (simp only [seg_len, cellsS, List.length_append, List.length_cons, List.length_nil]; rfl)) rfl ?_
        refine xreb 0 ([.v (.int .u8 ((y55.1.1.toNat : Int)))] ++ ((List.map ew y55.1.2.1.l).flatten ++ [.v (.bool y55.1.2.2.1), .v (.int .i64 y55.1.2.2.2)])) rfl (by first | rfl | exact (List.append_nil _).symm | exact List.append_nil _ | exact List.append_assoc _ _ _ | exact (List.append_assoc _ _ _).symm | exact congrArg _ (List.append_nil _).symm | exact congrArg _ (List.append_nil _) | (simp; done) | (simp [cellsS]; done)) ?_
        refine xvalP (pv_assign rfl) rfl rfl ?_
        refine xnil ?_
        refine xthen ?_
        refine xseq ?_
        refine xblock ?_
        refine xseq ?_
        refine xregion ?_
        refine xvalP (pv_move rfl) rfl rfl ?_
        refine xvalP (pv_bin2 rfl rfl rfl) rfl rfl ?_
        refine xvalP (pv_assign rfl) rfl rfl ?_
        refine xnil ?_
        refine xthen ?_
        by_cases hp65 : ¬ (y55.2 = 0)
        · replace h := h.1 hp65
          refine xcondT' (not_t (decide_eq_false hp65)) rfl ?_
          refine xseq ?_
          refine xregion ?_
          refine xvalP (pv_buildAC (cs := ((List.map ew ((Arr.rep 4 (0 : UInt64))).l).flatten)) UndC.h ShpC.h InfC.h rfl (by rfl)) rfl rfl ?_
          refine xvalP (pv_move rfl) rfl rfl ?_
          refine xstoreP 2 [] ((List.map ew ((Arr.rep 4 (0 : UInt64))).l).flatten) [] (by first | rfl | exact (List.append_nil _).symm | exact List.append_nil _ | exact List.append_assoc _ _ _ | exact (List.append_assoc _ _ _).symm | exact congrArg _ (List.append_nil _).symm | exact congrArg _ (List.append_nil _) | (simp; done) | (simp [cellsS]; done)) (by first | rfl | exact seg_lenE (by rfl) | exact len_app rfl (seg_lenE (by rfl)) (by rfl) | exact len_app (seg_lenE (by rfl)) rfl (by rfl) | exact len_app rfl (len_app (seg_lenE (by rfl)) rfl (by rfl)) (by rfl) | (simp only [seg_len, cellsS, List.length_append, List.length_cons, List.length_nil]; done) | (simp only [seg_len, cellsS, List.length_append, List.length_cons, List.length_nil]; rfl)) (by first | rfl | exact seg_lenE (by rfl) | exact len_app rfl (seg_lenE (by rfl)) (by rfl) | exact len_app (seg_lenE (by rfl)) rfl (by rfl) | exact len_app rfl (len_app (seg_lenE (by rfl)) rfl (by rfl)) (by rfl) | (simp only [seg_len, cellsS, List.length_append, List.length_cons, List.length_nil]; done) | (simp only [seg_len, cellsS, List.length_append, List.length_cons, List.length_nil]; rfl)) ShpC.h rfl rfl rfl rfl (by first | rfl | exact seg_lenE (by rfl) | exact len_app rfl (seg_lenE (by rfl)) (by rfl) | exact len_app (seg_lenE (by rfl)) rfl (by rfl) | exact len_app rfl (len_app (seg_lenE (by rfl)) rfl (by rfl)) (by rfl) | (simp only [seg_len, cellsS, List.length_append, List.length_cons, List.length_nil]; done) | (simp only [seg_len, cellsS, List.length_append, List.length_cons, List.length_nil]; rfl)) rfl ?_
          refine xreb 2 ((List.map ew ((Arr.rep 4 (0 : UInt64))).l).flatten) rfl (by first | rfl | exact (List.append_nil _).symm | exact List.append_nil _ | exact List.append_assoc _ _ _ | exact (List.append_assoc _ _ _).symm | exact congrArg _ (List.append_nil _).symm | exact congrArg _ (List.append_nil _) | (simp; done) | (simp [cellsS]; done)) ?_
          refine xvalP (pv_assign rfl) rfl rfl ?_
          refine xvalP (pv_assign rfl) rfl rfl ?_
          refine xnil ?_
          refine xthen ?_
          refine xretc ?_
          refine xin_ret ?_
          refine xthen_ret ?_
          replace h := h.symm
          subst h
          exact xretL (rs := [.cell 4 26, .tmp 5, .tmp 6]) (ss := [.agg ((List.map ew ((Arr.rep 4 (0 : UInt64))).l).flatten), .v (.int .i64 0), .v (.int .i64 y55.2)]) hg rfl (by refine RetL.cell 2 ShpC.h rfl rfl (part_midE (pre := []) (mid := ((List.map ew ((Arr.rep 4 (0 : UInt64))).l).flatten)) (post := []) (by first | rfl | exact (List.append_nil _).symm | exact List.append_nil _ | exact List.append_assoc _ _ _ | exact (List.append_assoc _ _ _).symm | exact congrArg _ (List.append_nil _).symm | exact congrArg _ (List.append_nil _) | (simp; done) | (simp [cellsS]; done)) (by first | rfl | exact seg_lenE (by rfl) | exact len_app rfl (seg_lenE (by rfl)) (by rfl) | exact len_app (seg_lenE (by rfl)) rfl (by rfl) | exact len_app rfl (len_app (seg_lenE (by rfl)) rfl (by rfl)) (by rfl) | (simp only [seg_len, cellsS, List.length_append, List.length_cons, List.length_nil]; done) | (simp only [seg_len, cellsS, List.length_append, List.length_cons, List.length_nil]; rfl)) (by first | rfl | exact seg_lenE (by rfl) | exact len_app rfl (seg_lenE (by rfl)) (by rfl) | exact len_app (seg_lenE (by rfl)) rfl (by rfl) | exact len_app rfl (len_app (seg_lenE (by rfl)) rfl (by rfl)) (by rfl) | (simp only [seg_len, cellsS, List.length_append, List.length_cons, List.length_nil]; done) | (simp only [seg_len, cellsS, List.length_append, List.length_cons, List.length_nil]; rfl)) (part_all (seg_lenE (by rfl)))) (len_midE (pre := []) (mid := ((List.map ew ((Arr.rep 4 (0 : UInt64))).l).flatten)) (post := []) (by first | rfl | exact (List.append_nil _).symm | exact List.append_nil _ | exact List.append_assoc _ _ _ | exact (List.append_assoc _ _ _).symm | exact congrArg _ (List.append_nil _).symm | exact congrArg _ (List.append_nil _) | (simp; done) | (simp [cellsS]; done)) (by first | rfl | exact seg_lenE (by rfl) | exact len_app rfl (seg_lenE (by rfl)) (by rfl) | exact len_app (seg_lenE (by rfl)) rfl (by rfl) | exact len_app rfl (len_app (seg_lenE (by rfl)) rfl (by rfl)) (by rfl) | (simp only [seg_len, cellsS, List.length_append, List.length_cons, List.length_nil]; done) | (simp only [seg_len, cellsS, List.length_append, List.length_cons, List.length_nil]; rfl)) (by first | rfl | exact seg_lenE (by rfl) | exact len_app rfl (seg_lenE (by rfl)) (by rfl) | exact len_app (seg_lenE (by rfl)) rfl (by rfl) | exact len_app rfl (len_app (seg_lenE (by rfl)) rfl (by rfl)) (by rfl) | (simp only [seg_len, cellsS, List.length_append, List.length_cons, List.length_nil]; done) | (simp only [seg_len, cellsS, List.length_append, List.length_cons, List.length_nil]; rfl))) (by first | with_reducible exact Wk.refl _ | exact Wk.nil_own _ | exact Wk.nil_pl _ | with_reducible exact Wk.tok _ _ _ | exact Wk.tok _ _ _ | exact .eq rfl) ?_; refine RetL.tmp rfl (.refl _) ?_; refine RetL.tmp rfl (.refl _) ?_; exact RetL.nil) (SubM.of (.nil _) (.nil _)) ⟨rfl, rfl, rfl⟩
        · replace h := h.2 hp65
          refine xcondF' (not_f (decide_eq_true (Decidable.of_not_not hp65))) rfl ?_
          refine xseqM (fun σ => ∃ (x68 : Bool), brack_part_j1 y4 y55 x68 r ∧ σ = ⟨[(4, .v (.pointer (some ⟨b4, 0, none⟩))), (7, .v (.pointer (some ⟨b7, 0, none⟩))), (9, .v (.pointer (some ⟨b9, 0, none⟩))), (53, .v (.bool x68))], [⟨b9, 48, ([.v (.int .u8 ((y55.1.1.toNat : Int)))] ++ ((List.map ew y55.1.2.1.l).flatten ++ [.v (.bool y55.1.2.2.1), .v (.int .i64 y55.1.2.2.2)]))⟩, ⟨b7, 48, ([.v (.int .u8 ((y4.1.1.toNat : Int)))] ++ ((List.map ew y4.1.2.1.l).flatten ++ [.v (.bool y4.1.2.2.1), .v (.int .i64 y4.1.2.2.2)]))⟩, ⟨b4, 26, ((List.map ew ((Arr.rep 4 (0 : UInt64))).l).flatten)⟩], []⟩) ?_ ?_
          · refine xregion ?_
            refine xvalP (qv_fieldAddrB FldC.h rfl) rfl rfl ?_
            refine xval (qv_loadP 0 ([.v (.int .u8 ((y55.1.1.toNat : Int)))] ++ (List.map ew y55.1.2.1.l).flatten) [.v (.bool y55.1.2.2.1)] [.v (.int .i64 y55.1.2.2.2)] (by first | rfl | exact (List.append_nil _).symm | exact List.append_nil _ | exact List.append_assoc _ _ _ | exact (List.append_assoc _ _ _).symm | exact congrArg _ (List.append_nil _).symm | exact congrArg _ (List.append_nil _) | (simp; done) | (simp [cellsS]; done)) (by first | rfl | exact seg_lenE (by rfl) | exact len_app rfl (seg_lenE (by rfl)) (by rfl) | exact len_app (seg_lenE (by rfl)) rfl (by rfl) | exact len_app rfl (len_app (seg_lenE (by rfl)) rfl (by rfl)) (by rfl) | (simp only [seg_len, cellsS, List.length_append, List.length_cons, List.length_nil]; done) | (simp only [seg_len, cellsS, List.length_append, List.length_cons, List.length_nil]; rfl)) (by first | rfl | exact seg_lenE (by rfl) | exact len_app rfl (seg_lenE (by rfl)) (by rfl) | exact len_app (seg_lenE (by rfl)) rfl (by rfl) | exact len_app rfl (len_app (seg_lenE (by rfl)) rfl (by rfl)) (by rfl) | (simp only [seg_len, cellsS, List.length_append, List.length_cons, List.length_nil]; done) | (simp only [seg_len, cellsS, List.length_append, List.length_cons, List.length_nil]; rfl)) rfl ShpC.h rfl rfl) rfl rfl ?_
            refine xvalP (pv_move rfl) rfl rfl ?_
            by_cases hp69 : y55.1.2.2.1 = true
            · rw [show y55.1.2.2.1 = true from hp69, Bool.true_or] at h
              refine xsetB 56 hp69 rfl ?_
              refine xskip rfl rfl ?_
              refine xskip rfl rfl ?_
              refine xskip rfl rfl ?_
              refine xskip rfl rfl ?_
              refine xskip rfl rfl ?_
              refine xvalP (pv_pick rfl rfl) rfl rfl ?_
              refine xvalP (pv_assign rfl) rfl rfl ?_
              refine xnil ?_
              exact xmeet ⟨true, h, rfl⟩ ⟨(.cons rfl (.refl _) (.cons rfl (.refl _) (.cons rfl (.refl _) (.cons rfl (.refl _) (.nil _))))), (SubM.of (.keep rfl rfl (.refl _) (.keep rfl rfl (.refl _) (.keep rfl rfl (.refl _) (.nil _)))) (.nil _))⟩
            · rw [show y55.1.2.2.1 = false from (b_f hp69), Bool.false_or] at h
              refine xsetB 56 (b_f hp69) rfl ?_
              refine xvalP (qv_fieldAddrB FldC.h rfl) rfl rfl ?_
              refine xval (qv_loadB 0 ShpC.h rfl rfl rfl rfl) rfl rfl ?_
              refine xvalP (qv_fieldAddrB FldC.h rfl) rfl rfl ?_
              refine xval (qv_loadB 1 ShpC.h rfl rfl rfl rfl) rfl rfl ?_
              refine xvalP (pv_bin2 rfl rfl rfl) rfl rfl ?_
              refine xvalP (pv_pick rfl rfl) rfl rfl ?_
              refine xvalP (pv_assign rfl) rfl rfl ?_
              refine xnil ?_
              exact xmeet ⟨(decide ((y55.1.1.toNat : Int) < (y4.1.1.toNat : Int))), h, rfl⟩ ⟨(.cons rfl (.refl _) (.cons rfl (.refl _) (.cons rfl (.refl _) (.cons rfl (.refl _) (.nil _))))), (SubM.of (.keep rfl rfl (.refl _) (.keep rfl rfl (.refl _) (.keep rfl rfl (.refl _) (.nil _)))) (.nil _))⟩
          · clear h
            rintro _ ⟨x68, h, rfl⟩
            by_cases hp71 : x68 = true
            · replace h := h.1 hp71
              refine xcondT' hp71 rfl ?_
              refine xseq ?_
              refine xregion ?_
              refine xvalP (pv_buildAC (cs := ((List.map ew ((Arr.rep 4 (0 : UInt64))).l).flatten)) UndC.h ShpC.h InfC.h rfl (by rfl)) rfl rfl ?_
              refine xstoreP 2 [] ((List.map ew ((Arr.rep 4 (0 : UInt64))).l).flatten) [] (by first | rfl | exact (List.append_nil _).symm | exact List.append_nil _ | exact List.append_assoc _ _ _ | exact (List.append_assoc _ _ _).symm | exact congrArg _ (List.append_nil _).symm | exact congrArg _ (List.append_nil _) | (simp; done) | (simp [cellsS]; done)) (by first | rfl | exact seg_lenE (by rfl) | exact len_app rfl (seg_lenE (by rfl)) (by rfl) | exact len_app (seg_lenE (by rfl)) rfl (by rfl) | exact len_app rfl (len_app (seg_lenE (by rfl)) rfl (by rfl)) (by rfl) | (simp only [seg_len, cellsS, List.length_append, List.length_cons, List.length_nil]; done) | (simp only [seg_len, cellsS, List.length_append, List.length_cons, List.length_nil]; rfl)) (by first | rfl | exact seg_lenE (by rfl) | exact len_app rfl (seg_lenE (by rfl)) (by rfl) | exact len_app (seg_lenE (by rfl)) rfl (by rfl) | exact len_app rfl (len_app (seg_lenE (by rfl)) rfl (by rfl)) (by rfl) | (simp only [seg_len, cellsS, List.length_append, List.length_cons, List.length_nil]; done) | (simp only [seg_len, cellsS, List.length_append, List.length_cons, List.length_nil]; rfl)) ShpC.h rfl rfl rfl rfl (by first | rfl | exact seg_lenE (by rfl) | exact len_app rfl (seg_lenE (by rfl)) (by rfl) | exact len_app (seg_lenE (by rfl)) rfl (by rfl) | exact len_app rfl (len_app (seg_lenE (by rfl)) rfl (by rfl)) (by rfl) | (simp only [seg_len, cellsS, List.length_append, List.length_cons, List.length_nil]; done) | (simp only [seg_len, cellsS, List.length_append, List.length_cons, List.length_nil]; rfl)) rfl ?_
              refine xreb 2 ((List.map ew ((Arr.rep 4 (0 : UInt64))).l).flatten) rfl (by first | rfl | exact (List.append_nil _).symm | exact List.append_nil _ | exact List.append_assoc _ _ _ | exact (List.append_assoc _ _ _).symm | exact congrArg _ (List.append_nil _).symm | exact congrArg _ (List.append_nil _) | (simp; done) | (simp [cellsS]; done)) ?_
              refine xvalP (pv_assign rfl) rfl rfl ?_
              refine xvalP (pv_assign rfl) rfl rfl ?_
              refine xnil ?_
              refine xthen ?_
              refine xretc ?_
              refine xin_ret ?_
              refine xthen_ret ?_
              replace h := h.symm
              subst h
              exact xretL (rs := [.cell 4 26, .tmp 5, .tmp 6]) (ss := [.agg ((List.map ew ((Arr.rep 4 (0 : UInt64))).l).flatten), .v (.int .i64 0), .v (.int .i64 3)]) hg rfl (by refine RetL.cell 2 ShpC.h rfl rfl (part_midE (pre := []) (mid := ((List.map ew ((Arr.rep 4 (0 : UInt64))).l).flatten)) (post := []) (by first | rfl | exact (List.append_nil _).symm | exact List.append_nil _ | exact List.append_assoc _ _ _ | exact (List.append_assoc _ _ _).symm | exact congrArg _ (List.append_nil _).symm | exact congrArg _ (List.append_nil _) | (simp; done) | (simp [cellsS]; done)) (by first | rfl | exact seg_lenE (by rfl) | exact len_app rfl (seg_lenE (by rfl)) (by rfl) | exact len_app (seg_lenE (by rfl)) rfl (by rfl) | exact len_app rfl (len_app (seg_lenE (by rfl)) rfl (by rfl)) (by rfl) | (simp only [seg_len, cellsS, List.length_append, List.length_cons, List.length_nil]; done) | (simp only [seg_len, cellsS, List.length_append, List.length_cons, List.length_nil]; rfl)) (by first | rfl | exact seg_lenE (by rfl) | exact len_app rfl (seg_lenE (by rfl)) (by rfl) | exact len_app (seg_lenE (by rfl)) rfl (by rfl) | exact len_app rfl (len_app (seg_lenE (by rfl)) rfl (by rfl)) (by rfl) | (simp only [seg_len, cellsS, List.length_append, List.length_cons, List.length_nil]; done) | (simp only [seg_len, cellsS, List.length_append, List.length_cons, List.length_nil]; rfl)) (part_all (seg_lenE (by rfl)))) (len_midE (pre := []) (mid := ((List.map ew ((Arr.rep 4 (0 : UInt64))).l).flatten)) (post := []) (by first | rfl | exact (List.append_nil _).symm | exact List.append_nil _ | exact List.append_assoc _ _ _ | exact (List.append_assoc _ _ _).symm | exact congrArg _ (List.append_nil _).symm | exact congrArg _ (List.append_nil _) | (simp; done) | (simp [cellsS]; done)) (by first | rfl | exact seg_lenE (by rfl) | exact len_app rfl (seg_lenE (by rfl)) (by rfl) | exact len_app (seg_lenE (by rfl)) rfl (by rfl) | exact len_app rfl (len_app (seg_lenE (by rfl)) rfl (by rfl)) (by rfl) | (simp only [seg_len, cellsS, List.length_append, List.length_cons, List.length_nil]; done) | (simp only [seg_len, cellsS, List.length_append, List.length_cons, List.length_nil]; rfl)) (by first | rfl | exact seg_lenE (by rfl) | exact len_app rfl (seg_lenE (by rfl)) (by rfl) | exact len_app (seg_lenE (by rfl)) rfl (by rfl) | exact len_app rfl (len_app (seg_lenE (by rfl)) rfl (by rfl)) (by rfl) | (simp only [seg_len, cellsS, List.length_append, List.length_cons, List.length_nil]; done) | (simp only [seg_len, cellsS, List.length_append, List.length_cons, List.length_nil]; rfl))) (by first | with_reducible exact Wk.refl _ | exact Wk.nil_own _ | exact Wk.nil_pl _ | with_reducible exact Wk.tok _ _ _ | exact Wk.tok _ _ _ | exact .eq rfl) ?_; refine RetL.tmp rfl (.refl _) ?_; refine RetL.tmp rfl (.refl _) ?_; exact RetL.nil) (SubM.of (.nil _) (.nil _)) ⟨rfl, rfl, rfl⟩
            · replace h := h.2 hp71
              refine xcondF' (b_f hp71) rfl ?_
              refine xskipc ?_
              refine xin_normal ?_
              refine xthen ?_
              refine xseq ?_
              refine xregionD (m := 10) (by kernel_rfl) rfl ?_
              obtain ⟨y77, h76, h⟩ := h
              refine xpcut 0 #[true, true, true, true, true, true, true, true, true, true] (fun σ => σ = ⟨[(4, .v (.pointer (some ⟨b4, 0, none⟩))), (5, .v (.int .i64 y55.1.2.2.2)), (6, .v (.int .i64 0))], [⟨b4, 26, ((List.map ew y77.l).flatten)⟩], []⟩) ?_ (fun key78 => ?_)
              · rintro _ rfl
                refine xpdone (by kernel_rfl) ?_
                refine xthen ?_
                refine xretc ?_
                replace h := h.symm
                subst h
                exact xretL (rs := [.cell 4 26, .tmp 5, .tmp 6]) (ss := [.agg ((List.map ew y77.l).flatten), .v (.int .i64 y55.1.2.2.2), .v (.int .i64 0)]) hg rfl (by refine RetL.cell 0 ShpC.h rfl rfl (part_midE (pre := []) (mid := ((List.map ew y77.l).flatten)) (post := []) (by first | rfl | exact (List.append_nil _).symm | exact List.append_nil _ | exact List.append_assoc _ _ _ | exact (List.append_assoc _ _ _).symm | exact congrArg _ (List.append_nil _).symm | exact congrArg _ (List.append_nil _) | (simp; done) | (simp [cellsS]; done)) (by first | rfl | exact seg_lenE (by rfl) | exact len_app rfl (seg_lenE (by rfl)) (by rfl) | exact len_app (seg_lenE (by rfl)) rfl (by rfl) | exact len_app rfl (len_app (seg_lenE (by rfl)) rfl (by rfl)) (by rfl) | (simp only [seg_len, cellsS, List.length_append, List.length_cons, List.length_nil]; done) | (simp only [seg_len, cellsS, List.length_append, List.length_cons, List.length_nil]; rfl)) (by first | rfl | exact seg_lenE (by rfl) | exact len_app rfl (seg_lenE (by rfl)) (by rfl) | exact len_app (seg_lenE (by rfl)) rfl (by rfl) | exact len_app rfl (len_app (seg_lenE (by rfl)) rfl (by rfl)) (by rfl) | (simp only [seg_len, cellsS, List.length_append, List.length_cons, List.length_nil]; done) | (simp only [seg_len, cellsS, List.length_append, List.length_cons, List.length_nil]; rfl)) (part_all (seg_lenE (by rfl)))) (len_midE (pre := []) (mid := ((List.map ew y77.l).flatten)) (post := []) (by first | rfl | exact (List.append_nil _).symm | exact List.append_nil _ | exact List.append_assoc _ _ _ | exact (List.append_assoc _ _ _).symm | exact congrArg _ (List.append_nil _).symm | exact congrArg _ (List.append_nil _) | (simp; done) | (simp [cellsS]; done)) (by first | rfl | exact seg_lenE (by rfl) | exact len_app rfl (seg_lenE (by rfl)) (by rfl) | exact len_app (seg_lenE (by rfl)) rfl (by rfl) | exact len_app rfl (len_app (seg_lenE (by rfl)) rfl (by rfl)) (by rfl) | (simp only [seg_len, cellsS, List.length_append, List.length_cons, List.length_nil]; done) | (simp only [seg_len, cellsS, List.length_append, List.length_cons, List.length_nil]; rfl)) (by first | rfl | exact seg_lenE (by rfl) | exact len_app rfl (seg_lenE (by rfl)) (by rfl) | exact len_app (seg_lenE (by rfl)) rfl (by rfl) | exact len_app rfl (len_app (seg_lenE (by rfl)) rfl (by rfl)) (by rfl) | (simp only [seg_len, cellsS, List.length_append, List.length_cons, List.length_nil]; done) | (simp only [seg_len, cellsS, List.length_append, List.length_cons, List.length_nil]; rfl))) (by first | with_reducible exact Wk.refl _ | exact Wk.nil_own _ | exact Wk.nil_pl _ | with_reducible exact Wk.tok _ _ _ | exact Wk.tok _ _ _ | exact .eq rfl) ?_; refine RetL.tmp rfl (.refl _) ?_; refine RetL.tmp rfl (.refl _) ?_; exact RetL.nil) (SubM.of (.nil _) (.nil _)) ⟨rfl, rfl, rfl⟩
              refine xpcut 3 #[true, true, true, true, true, true, true, false, false, false] (fun σ => σ = ⟨[(4, .v (.pointer (some ⟨b4, 0, none⟩))), (68, .agg ((List.map ew y77.l).flatten)), (70, .v (.int .i64 y55.1.2.2.2))], [⟨b4, 26, ((List.map ew ((Arr.rep 4 (0 : UInt64))).l).flatten)⟩], []⟩) ?_ (fun key79 => ?_)
              · rintro _ rfl
                refine xpstep (i := 7) (by kernel_rfl) rfl ?_
                refine wstoreP 0 [] ((List.map ew ((Arr.rep 4 (0 : UInt64))).l).flatten) [] (by first | rfl | exact (List.append_nil _).symm | exact List.append_nil _ | exact List.append_assoc _ _ _ | exact (List.append_assoc _ _ _).symm | exact congrArg _ (List.append_nil _).symm | exact congrArg _ (List.append_nil _) | (simp; done) | (simp [cellsS]; done)) (by first | rfl | exact seg_lenE (by rfl) | exact len_app rfl (seg_lenE (by rfl)) (by rfl) | exact len_app (seg_lenE (by rfl)) rfl (by rfl) | exact len_app rfl (len_app (seg_lenE (by rfl)) rfl (by rfl)) (by rfl) | (simp only [seg_len, cellsS, List.length_append, List.length_cons, List.length_nil]; done) | (simp only [seg_len, cellsS, List.length_append, List.length_cons, List.length_nil]; rfl)) (by first | rfl | exact seg_lenE (by rfl) | exact len_app rfl (seg_lenE (by rfl)) (by rfl) | exact len_app (seg_lenE (by rfl)) rfl (by rfl) | exact len_app rfl (len_app (seg_lenE (by rfl)) rfl (by rfl)) (by rfl) | (simp only [seg_len, cellsS, List.length_append, List.length_cons, List.length_nil]; done) | (simp only [seg_len, cellsS, List.length_append, List.length_cons, List.length_nil]; rfl)) ShpC.h rfl rfl rfl rfl (by first | rfl | exact seg_lenE (by rfl) | exact len_app rfl (seg_lenE (by rfl)) (by rfl) | exact len_app (seg_lenE (by rfl)) rfl (by rfl) | exact len_app rfl (len_app (seg_lenE (by rfl)) rfl (by rfl)) (by rfl) | (simp only [seg_len, cellsS, List.length_append, List.length_cons, List.length_nil]; done) | (simp only [seg_len, cellsS, List.length_append, List.length_cons, List.length_nil]; rfl)) rfl ?_
                refine preb 0 ((List.map ew y77.l).flatten) rfl (by first | rfl | exact (List.append_nil _).symm | exact List.append_nil _ | exact List.append_assoc _ _ _ | exact (List.append_assoc _ _ _).symm | exact congrArg _ (List.append_nil _).symm | exact congrArg _ (List.append_nil _) | (simp; done) | (simp [cellsS]; done)) ?_
                refine xpval 8 rfl (pv_assign rfl) rfl rfl (by kernel_rfl) (by kernel_rfl) (by kernel_rfl) (fun _ _ _ _ h => h) ?_
                refine xpval 9 rfl (pv_assign rfl) rfl rfl (by kernel_rfl) (by kernel_rfl) (by kernel_rfl) (fun _ _ _ _ h => h) ?_
                exact xpuse key78 rfl ⟨(.cons rfl (.refl _) (.cons rfl (.refl _) (.cons rfl (.refl _) (.nil _)))), (SubM.of (.keep rfl rfl (.refl _) (.nil _)) (.nil _))⟩ rfl (by kernel_rfl)
              refine xpval 0 rfl (qv_fieldAddrB FldC.h rfl) rfl rfl (by kernel_rfl) (by kernel_rfl) (by kernel_rfl) (fun _ _ _ _ h => h) ?_
              refine xpval 2 rfl (qv_fieldAddrB FldC.h rfl) rfl rfl (by kernel_rfl) (by kernel_rfl) (by kernel_rfl) (fun _ _ _ _ h => h) ?_
              refine xpval 5 rfl (qv_fieldAddrB FldC.h rfl) rfl rfl (by kernel_rfl) (by kernel_rfl) (by kernel_rfl) (fun _ _ _ _ h => h) ?_
              refine xpvalE 1 [3, 6] rfl (qv_loadB 1 ShpC.h rfl rfl rfl rfl) rfl rfl (by kernel_rfl) (by kernel_rfl) (by kernel_rfl) (fun _ _ _ _ h => h) ?_
              refine xpvalE 3 [6] rfl (qv_loadB 0 ShpC.h rfl rfl rfl rfl) rfl rfl (by kernel_rfl) (by kernel_rfl) (by kernel_rfl) (fun _ _ _ _ h => h) ?_
              refine xpstepN (is := [4, 6]) (by kernel_rfl) (by simp) ?_
              intro i hi; simp only [List.mem_cons, List.not_mem_nil, or_false] at hi; rcases hi with rfl | rfl
              · refine ⟨_, rfl, ?_⟩
                refine wcall0 (class_Range_con y4.1.1 y55.1.1 _ h76) Try.func24 (by kernel_rfl) rfl (.cons rfl (.refl _) (.cons rfl (.refl _) .nil)) rfl rfl ?_
                refine xpstepN (is := [6, 7]) (by kernel_rfl) (by simp) ?_
                intro i hi; simp only [List.mem_cons, List.not_mem_nil, or_false] at hi; rcases hi with rfl | rfl
                · refine ⟨_, rfl, ?_⟩
                  refine wval (qv_loadP 0 ([.v (.int .u8 ((y55.1.1.toNat : Int)))] ++ ((List.map ew y55.1.2.1.l).flatten ++ [.v (.bool y55.1.2.2.1)])) [.v (.int .i64 y55.1.2.2.2)] [] (by first | rfl | exact (List.append_nil _).symm | exact List.append_nil _ | exact List.append_assoc _ _ _ | exact (List.append_assoc _ _ _).symm | exact congrArg _ (List.append_nil _).symm | exact congrArg _ (List.append_nil _) | (simp; done) | (simp [cellsS]; done)) (by first | rfl | exact seg_lenE (by rfl) | exact len_app rfl (seg_lenE (by rfl)) (by rfl) | exact len_app (seg_lenE (by rfl)) rfl (by rfl) | exact len_app rfl (len_app (seg_lenE (by rfl)) rfl (by rfl)) (by rfl) | (simp only [seg_len, cellsS, List.length_append, List.length_cons, List.length_nil]; done) | (simp only [seg_len, cellsS, List.length_append, List.length_cons, List.length_nil]; rfl)) (by first | rfl | exact seg_lenE (by rfl) | exact len_app rfl (seg_lenE (by rfl)) (by rfl) | exact len_app (seg_lenE (by rfl)) rfl (by rfl) | exact len_app rfl (len_app (seg_lenE (by rfl)) rfl (by rfl)) (by rfl) | (simp only [seg_len, cellsS, List.length_append, List.length_cons, List.length_nil]; done) | (simp only [seg_len, cellsS, List.length_append, List.length_cons, List.length_nil]; rfl)) rfl ShpC.h rfl rfl) rfl rfl ?_
                  exact xpuse key79 rfl ⟨(.cons rfl (.refl _) (.cons rfl (.refl _) (.cons rfl (.refl _) (.nil _)))), (SubM.of (.drop (.drop (.keep rfl rfl (.refl _) (.nil _)))) (.nil _))⟩ rfl (by kernel_rfl)
                · refine ⟨_, rfl, ?_⟩
                  refine wstoreP 2 [] ((List.map ew ((Arr.rep 4 (0 : UInt64))).l).flatten) [] (by first | rfl | exact (List.append_nil _).symm | exact List.append_nil _ | exact List.append_assoc _ _ _ | exact (List.append_assoc _ _ _).symm | exact congrArg _ (List.append_nil _).symm | exact congrArg _ (List.append_nil _) | (simp; done) | (simp [cellsS]; done)) (by first | rfl | exact seg_lenE (by rfl) | exact len_app rfl (seg_lenE (by rfl)) (by rfl) | exact len_app (seg_lenE (by rfl)) rfl (by rfl) | exact len_app rfl (len_app (seg_lenE (by rfl)) rfl (by rfl)) (by rfl) | (simp only [seg_len, cellsS, List.length_append, List.length_cons, List.length_nil]; done) | (simp only [seg_len, cellsS, List.length_append, List.length_cons, List.length_nil]; rfl)) (by first | rfl | exact seg_lenE (by rfl) | exact len_app rfl (seg_lenE (by rfl)) (by rfl) | exact len_app (seg_lenE (by rfl)) rfl (by rfl) | exact len_app rfl (len_app (seg_lenE (by rfl)) rfl (by rfl)) (by rfl) | (simp only [seg_len, cellsS, List.length_append, List.length_cons, List.length_nil]; done) | (simp only [seg_len, cellsS, List.length_append, List.length_cons, List.length_nil]; rfl)) ShpC.h rfl rfl rfl rfl (by first | rfl | exact seg_lenE (by rfl) | exact len_app rfl (seg_lenE (by rfl)) (by rfl) | exact len_app (seg_lenE (by rfl)) rfl (by rfl) | exact len_app rfl (len_app (seg_lenE (by rfl)) rfl (by rfl)) (by rfl) | (simp only [seg_len, cellsS, List.length_append, List.length_cons, List.length_nil]; done) | (simp only [seg_len, cellsS, List.length_append, List.length_cons, List.length_nil]; rfl)) rfl ?_
                  refine preb 2 ((List.map ew y77.l).flatten) rfl (by first | rfl | exact (List.append_nil _).symm | exact List.append_nil _ | exact List.append_assoc _ _ _ | exact (List.append_assoc _ _ _).symm | exact congrArg _ (List.append_nil _).symm | exact congrArg _ (List.append_nil _) | (simp; done) | (simp [cellsS]; done)) ?_
                  refine xpvalE 6 [] rfl (qv_loadP 0 ([.v (.int .u8 ((y55.1.1.toNat : Int)))] ++ ((List.map ew y55.1.2.1.l).flatten ++ [.v (.bool y55.1.2.2.1)])) [.v (.int .i64 y55.1.2.2.2)] [] (by first | rfl | exact (List.append_nil _).symm | exact List.append_nil _ | exact List.append_assoc _ _ _ | exact (List.append_assoc _ _ _).symm | exact congrArg _ (List.append_nil _).symm | exact congrArg _ (List.append_nil _) | (simp; done) | (simp [cellsS]; done)) (by first | rfl | exact seg_lenE (by rfl) | exact len_app rfl (seg_lenE (by rfl)) (by rfl) | exact len_app (seg_lenE (by rfl)) rfl (by rfl) | exact len_app rfl (len_app (seg_lenE (by rfl)) rfl (by rfl)) (by rfl) | (simp only [seg_len, cellsS, List.length_append, List.length_cons, List.length_nil]; done) | (simp only [seg_len, cellsS, List.length_append, List.length_cons, List.length_nil]; rfl)) (by first | rfl | exact seg_lenE (by rfl) | exact len_app rfl (seg_lenE (by rfl)) (by rfl) | exact len_app (seg_lenE (by rfl)) rfl (by rfl) | exact len_app rfl (len_app (seg_lenE (by rfl)) rfl (by rfl)) (by rfl) | (simp only [seg_len, cellsS, List.length_append, List.length_cons, List.length_nil]; done) | (simp only [seg_len, cellsS, List.length_append, List.length_cons, List.length_nil]; rfl)) rfl ShpC.h rfl rfl) rfl rfl (by kernel_rfl) (by kernel_rfl) (by kernel_rfl) (fun _ _ _ _ h => h) ?_
                  refine xpval 8 rfl (pv_assign rfl) rfl rfl (by kernel_rfl) (by kernel_rfl) (by kernel_rfl) (fun _ _ _ _ h => h) ?_
                  refine xpval 9 rfl (pv_assign rfl) rfl rfl (by kernel_rfl) (by kernel_rfl) (by kernel_rfl) (fun _ _ _ _ h => h) ?_
                  exact xpuse key78 rfl ⟨(.cons rfl (.refl _) (.cons rfl (.refl _) (.cons rfl (.refl _) (.nil _)))), (SubM.of (.drop (.drop (.keep rfl rfl (.refl _) (.nil _)))) (.nil _))⟩ rfl (by kernel_rfl)
              · refine ⟨_, rfl, ?_⟩
                refine wval (qv_loadP 0 ([.v (.int .u8 ((y55.1.1.toNat : Int)))] ++ ((List.map ew y55.1.2.1.l).flatten ++ [.v (.bool y55.1.2.2.1)])) [.v (.int .i64 y55.1.2.2.2)] [] (by first | rfl | exact (List.append_nil _).symm | exact List.append_nil _ | exact List.append_assoc _ _ _ | exact (List.append_assoc _ _ _).symm | exact congrArg _ (List.append_nil _).symm | exact congrArg _ (List.append_nil _) | (simp; done) | (simp [cellsS]; done)) (by first | rfl | exact seg_lenE (by rfl) | exact len_app rfl (seg_lenE (by rfl)) (by rfl) | exact len_app (seg_lenE (by rfl)) rfl (by rfl) | exact len_app rfl (len_app (seg_lenE (by rfl)) rfl (by rfl)) (by rfl) | (simp only [seg_len, cellsS, List.length_append, List.length_cons, List.length_nil]; done) | (simp only [seg_len, cellsS, List.length_append, List.length_cons, List.length_nil]; rfl)) (by first | rfl | exact seg_lenE (by rfl) | exact len_app rfl (seg_lenE (by rfl)) (by rfl) | exact len_app (seg_lenE (by rfl)) rfl (by rfl) | exact len_app rfl (len_app (seg_lenE (by rfl)) rfl (by rfl)) (by rfl) | (simp only [seg_len, cellsS, List.length_append, List.length_cons, List.length_nil]; done) | (simp only [seg_len, cellsS, List.length_append, List.length_cons, List.length_nil]; rfl)) rfl ShpC.h rfl rfl) rfl rfl ?_
                refine xpstep (i := 4) (by kernel_rfl) rfl ?_
                refine wcall0 (class_Range_con y4.1.1 y55.1.1 _ h76) Try.func24 (by kernel_rfl) rfl (.cons rfl (.refl _) (.cons rfl (.refl _) .nil)) rfl rfl ?_
                exact xpuse key79 rfl ⟨(.cons rfl (.refl _) (.cons rfl (.refl _) (.cons rfl (.refl _) (.nil _)))), (SubM.of (.drop (.drop (.keep rfl rfl (.refl _) (.nil _)))) (.nil _))⟩ rfl (by kernel_rfl)
/-- class.Union -/
def class_Union_l2 (y735 : Arr 4 (UInt64)) (x534 : Int) (ag1 : (Int × (Arr 4 (UInt64))) → Prop) (ag2 : (Int × (Arr 4 (UInt64))) → Prop) (x757 : Int) (f758 : Arr 4 (UInt64)) (r : (Arr 4 (UInt64))) : Prop :=
  ((x757 < 4 → (0 ≤ (x757 : Int) ∧ (x757 : Int) < 4) ∧ ∃ y791 : UInt64, f758.l[(x757 : Int).toNat]? = some y791 ∧ (0 ≤ (x757 : Int) ∧ (x757 : Int) < 4) ∧ ∃ y793 : UInt64, y735.l[(x757 : Int).toNat]? = some y793 ∧ ∃ c795 : UInt64, (c795.toNat : Int) = IntKind.u64.wrap (BitVec.ofInt IntKind.u64.bits (y791.toNat : Int) ||| BitVec.ofInt IntKind.u64.bits (y793.toNat : Int)).toNat ∧ (0 ≤ (x757 : Int) ∧ (x757 : Int) < 4) ∧ ∃ y797 : UInt64, f758.l[(x757 : Int).toNat]? = some y797 ∧ InR (x757 + 1) ∧ ag2 ((x757 + 1), (Arr.set f758 (x757 : Int).toNat c795))) ∧ (¬ (x757 < 4) → InR (x534 + 1) ∧ ag1 ((x534 + 1), f758)))
def class_Union_l1 (l1 : List (Arr 4 (UInt64))) (ag1 : (Int × (Arr 4 (UInt64))) → Prop) (x534 : Int) (f535 : Arr 4 (UInt64)) (r : (Arr 4 (UInt64))) : Prop :=
  ((x534 < (l1.length : Int) → 0 ≤ (x534 : Int) ∧ ∃ y735 : Arr 4 (UInt64), l1[(x534 : Int).toNat]? = some y735 ∧ LoopR (fun ag2 s => class_Union_l2 y735 x534 ag1 ag2 s.1 s.2 r) (0, f535)) ∧ (¬ (x534 < (l1.length : Int)) → r = f535))
def class_Union_R (l1 : List (Arr 4 (UInt64))) (r : (Arr 4 (UInt64))) : Prop :=
  LoopR (fun ag1 s => class_Union_l1 l1 ag1 s.1 s.2 r) (0, (Arr.rep 4 (0 : UInt64)))
def class_Union_l2_ev (fuel : Nat) (y735 : Arr 4 (UInt64)) (x534 : Int) (ag1e : (Int × (Arr 4 (UInt64))) → Option ((Arr 4 (UInt64)))) (ag2e : (Int × (Arr 4 (UInt64))) → Option ((Arr 4 (UInt64)))) (x757 : Int) (f758 : Arr 4 (UInt64)) : Option ((Arr 4 (UInt64))) :=
  (if x757 < 4 then (if (0 ≤ (x757 : Int) ∧ (x757 : Int) < 4) then ((f758.l[(x757 : Int).toNat]?).bind fun y791 => (if (0 ≤ (x757 : Int) ∧ (x757 : Int) < 4) then ((y735.l[(x757 : Int).toNat]?).bind fun y793 => (exL (IntKind.u64.wrap (BitVec.ofInt IntKind.u64.bits (y791.toNat : Int) ||| BitVec.ofInt IntKind.u64.bits (y793.toNat : Int)).toNat) fun c795 => (if (0 ≤ (x757 : Int) ∧ (x757 : Int) < 4) then ((f758.l[(x757 : Int).toNat]?).bind fun y797 => (if InR (x757 + 1) then ag2e ((x757 + 1), (Arr.set f758 (x757 : Int).toNat c795)) else none)) else none))) else none)) else none) else (if InR (x534 + 1) then ag1e ((x534 + 1), f758) else none))
theorem class_Union_l2_ok {fuel : Nat} {y735 : Arr 4 (UInt64)} {x534 : Int} {ag1 : (Int × (Arr 4 (UInt64))) → Prop} {ag1e : (Int × (Arr 4 (UInt64))) → Option ((Arr 4 (UInt64)))} {ag2e : (Int × (Arr 4 (UInt64))) → Option ((Arr 4 (UInt64)))} {ag2 : (Int × (Arr 4 (UInt64))) → Prop} {x757 : Int} {f758 : Arr 4 (UInt64)} {r : (Arr 4 (UInt64))} (hagag1 : ∀ s, ag1e s = some r → ag1 s) (hagag2 : ∀ s, ag2e s = some r → ag2 s) (h : class_Union_l2_ev fuel y735 x534 ag1e ag2e x757 f758 = some r) : class_Union_l2 y735 x534 ag1 ag2 x757 f758 r := by
  unfold class_Union_l2_ev at h
  unfold class_Union_l2
  refine ⟨fun g133 => ?_, fun g133 => ?_⟩
  · rw [if_pos g133] at h
    obtain ⟨g134, h⟩ := if_ok h
    refine ⟨g134, ?_⟩
    obtain ⟨q135, g135, h⟩ := bind_ok h
    refine ⟨q135, g135, ?_⟩
    obtain ⟨g136, h⟩ := if_ok h
    refine ⟨g136, ?_⟩
    obtain ⟨q137, g137, h⟩ := bind_ok h
    refine ⟨q137, g137, ?_⟩
    obtain ⟨q138, g138, h⟩ := exL_ok h
    refine ⟨q138, g138, ?_⟩
    obtain ⟨g139, h⟩ := if_ok h
    refine ⟨g139, ?_⟩
    obtain ⟨q140, g140, h⟩ := bind_ok h
    refine ⟨q140, g140, ?_⟩
    obtain ⟨g141, h⟩ := if_ok h
    refine ⟨g141, ?_⟩
    exact hagag2 _ h
  · rw [if_neg g133] at h
    obtain ⟨g142, h⟩ := if_ok h
    refine ⟨g142, ?_⟩
    exact hagag1 _ h
def class_Union_l1_ev (fuel : Nat) (l1 : List (Arr 4 (UInt64))) (ag1e : (Int × (Arr 4 (UInt64))) → Option ((Arr 4 (UInt64)))) (x534 : Int) (f535 : Arr 4 (UInt64)) : Option ((Arr 4 (UInt64))) :=
  (if x534 < (l1.length : Int) then (if 0 ≤ (x534 : Int) then ((l1[(x534 : Int).toNat]?).bind fun y735 => (loopE (fun ag2e s => class_Union_l2_ev fuel y735 x534 ag1e ag2e s.1 s.2) fuel (0, f535))) else none) else some f535)
theorem class_Union_l1_ok {fuel : Nat} {l1 : List (Arr 4 (UInt64))} {ag1e : (Int × (Arr 4 (UInt64))) → Option ((Arr 4 (UInt64)))} {ag1 : (Int × (Arr 4 (UInt64))) → Prop} {x534 : Int} {f535 : Arr 4 (UInt64)} {r : (Arr 4 (UInt64))} (hagag1 : ∀ s, ag1e s = some r → ag1 s) (h : class_Union_l1_ev fuel l1 ag1e x534 f535 = some r) : class_Union_l1 l1 ag1 x534 f535 r := by
  unfold class_Union_l1_ev at h
  unfold class_Union_l1
  refine ⟨fun g143 => ?_, fun g143 => ?_⟩
  · rw [if_pos g143] at h
    obtain ⟨g144, h⟩ := if_ok h
    refine ⟨g144, ?_⟩
    obtain ⟨q145, g145, h⟩ := bind_ok h
    refine ⟨q145, g145, ?_⟩
    refine loopE_ok ?_ h
    intro ae ag s hag h
    exact class_Union_l2_ok hagag1 hag h
  · rw [if_neg g143] at h
    exact (Option.some.inj h).symm
def class_Union_ev (fuel : Nat) (l1 : List (Arr 4 (UInt64))) : Option ((Arr 4 (UInt64))) :=
  (loopE (fun ag1e s => class_Union_l1_ev fuel l1 ag1e s.1 s.2) fuel (0, (Arr.rep 4 (0 : UInt64))))
theorem class_Union_ok {fuel : Nat} {l1 : List (Arr 4 (UInt64))} {r : (Arr 4 (UInt64))} (h : class_Union_ev fuel l1 = some r) : class_Union_R l1 r := by
  unfold class_Union_ev at h
  unfold class_Union_R
  refine loopE_ok ?_ h
  intro ae ag s hag h
  exact class_Union_l1_ok hag h
set_option maxHeartbeats 4000000 in
theorem class_Union_con (l1 : List (Arr 4 (UInt64))) (r : (Arr 4 (UInt64))) (h : class_Union_R l1 r) : Con Try.prog 12 [.sl 4 none (List.map E_palinode_api_Set l1)] [] [] (Ret (.agg ((List.map ew r.l).flatten))) := by
  refine xenter Try.func12 rfl rfl fun g hg => ?_
  simp only [Try.ntmps12, slots]
  refine xseq ?_
  refine xregion ?_
  refine xalloc InfC.h rfl rfl fun b2 => ?_
  refine xreb 0 ((List.map ew ((Arr.rep 4 (0 : UInt64))).l).flatten) rfl rfl ?_
  refine xnil ?_
  refine xthen ?_
  refine xseq ?_
  refine xregion ?_
  refine xalloc InfC.h rfl rfl fun b3 => ?_
  refine xreb 0 ((List.map ew ((Arr.rep 4 (0 : UInt64))).l).flatten) rfl rfl ?_
  refine xnil ?_
  refine xthen ?_
  refine xseq ?_
  refine xseq ?_
  refine xregion ?_
  refine xvalP (pv_move rfl) rfl rfl ?_
  refine xvalP (pv_lenM UndC.h rfl) rfl rfl ?_
  refine xvalP (pv_move rfl) rfl rfl ?_
  refine xnil ?_
  refine xthen ?_
  refine xblock ?_
  obtain ⟨Inv, ⟨m0, hI⟩, hS⟩ := h
  refine xloop (fun σ m => ∃ (x534 : Int), ∃ (f535 : Arr 4 (UInt64)), Inv (x534, f535) m ∧ σ = ⟨[(2, .v (.pointer (some ⟨b2, 0, none⟩))), (3, .v (.pointer (some ⟨b3, 0, none⟩))), (7, .sl 4 none (List.map E_palinode_api_Set l1)), (8, .v (.int .i64 ((l1.length : Int)))), (9, .v (.int .i64 x534))], [⟨b3, 26, ((List.map ew f535.l).flatten)⟩, ⟨b2, 26, ((List.map ew ((Arr.rep 4 (0 : UInt64))).l).flatten)⟩], []⟩) ⟨0, (Arr.rep 4 (0 : UInt64)), hI, rfl⟩ ⟨(.cons rfl (.refl _) (.cons rfl (.refl _) (.cons rfl (.refl _) (.cons rfl (.refl _) (.cons rfl (.refl _) (.nil _)))))), (SubM.of (.keep rfl rfl (.refl _) (.keep rfl rfl (.refl _) (.nil _))) (.nil _))⟩ ?_
  rintro _ m ⟨x534, f535, hI, rfl⟩
  obtain ⟨ag1, hag1, h⟩ : ∃ ag, (∀ s', ag s' → ∃ m', m' < m ∧ Inv s' m') ∧ class_Union_l1 l1 ag x534 f535 r := ⟨_, fun _ h => h, hS (x534, f535) _ hI⟩
  clear hS hI
  refine xseq ?_
  refine xregion ?_
  refine xvalP (pv_bin2 rfl rfl rfl) rfl rfl ?_
  refine xnil ?_
  refine xthen ?_
  refine xseq ?_
  by_cases hp670 : x534 < (l1.length : Int)
  · replace h := h.1 hp670
    refine xcondT' (decide_eq_true hp670) rfl ?_
    refine xskipc ?_
    refine xthen ?_
    refine xseq ?_
    refine xblock ?_
    refine xseq ?_
    refine xregion ?_
    obtain ⟨h736a, h⟩ := h
    obtain ⟨y735, h736b, h⟩ := h
    refine xvalP (pv_indexAddrM h736a h736b UndC.h ShpC.h rfl rfl) rfl rfl ?_
    refine xval (qv_loadEP ((List.map ew y735.l).flatten) [] (by first | rfl | exact (List.append_nil _).symm | exact List.append_nil _ | exact List.append_assoc _ _ _ | exact (List.append_assoc _ _ _).symm | exact congrArg _ (List.append_nil _).symm | exact congrArg _ (List.append_nil _) | (simp; done) | (simp [cellsS]; done)) (by first | rfl | exact seg_lenE (by rfl) | exact len_app rfl (seg_lenE (by rfl)) (by rfl) | exact len_app (seg_lenE (by rfl)) rfl (by rfl) | exact len_app rfl (len_app (seg_lenE (by rfl)) rfl (by rfl)) (by rfl) | (simp only [seg_len, cellsS, List.length_append, List.length_cons, List.length_nil]; done) | (simp only [seg_len, cellsS, List.length_append, List.length_cons, List.length_nil]; rfl)) (part_all (seg_lenE (by rfl))) ShpC.h rfl) rfl rfl ?_
    refine xalloc InfC.h rfl rfl fun b5 => ?_
    refine xreb 0 ((List.map ew ((Arr.rep 4 (0 : UInt64))).l).flatten) rfl rfl ?_
    refine xstoreP 0 [] ((List.map ew ((Arr.rep 4 (0 : UInt64))).l).flatten) [] (by first | rfl | exact (List.append_nil _).symm | exact List.append_nil _ | exact List.append_assoc _ _ _ | exact (List.append_assoc _ _ _).symm | exact congrArg _ (List.append_nil _).symm | exact congrArg _ (List.append_nil _) | (simp; done) | (simp [cellsS]; done)) (by first | rfl | exact seg_lenE (by rfl) | exact len_app rfl (seg_lenE (by rfl)) (by rfl) | exact len_app (seg_lenE (by rfl)) rfl (by rfl) | exact len_app rfl (len_app (seg_lenE (by rfl)) rfl (by rfl)) (by rfl) | (simp only [seg_len, cellsS, List.length_append, List.length_cons, List.length_nil]; done) | (simp only [seg_len, cellsS, List.length_append, List.length_cons, List.length_nil]; rfl)) (by first | rfl | exact seg_lenE (by rfl) | exact len_app rfl (seg_lenE (by rfl)) (by rfl) | exact len_app (seg_lenE (by rfl)) rfl (by rfl) | exact len_app rfl (len_app (seg_lenE (by rfl)) rfl (by rfl)) (by rfl) | (simp only [seg_len, cellsS, List.length_append, List.length_cons, List.length_nil]; done) | (simp only [seg_len, cellsS, List.length_append, List.length_cons, List.length_nil]; rfl)) ShpC.h rfl rfl rfl rfl (by first | rfl | exact seg_lenE (by rfl) | exact len_app rfl (seg_lenE (by rfl)) (by rfl) | exact len_app (seg_lenE (by rfl)) rfl (by rfl) | exact len_app rfl (len_app (seg_lenE (by rfl)) rfl (by rfl)) (by rfl) | (simp only [seg_len, cellsS, List.length_append, List.length_cons, List.length_nil]; done) | (simp only [seg_len, cellsS, List.length_append, List.length_cons, List.length_nil]; rfl)) rfl ?_
    refine xreb 0 ((List.map ew y735.l).flatten) rfl (by first | rfl | exact (List.append_nil _).symm | exact List.append_nil _ | exact List.append_assoc _ _ _ | exact (List.append_assoc _ _ _).symm | exact congrArg _ (List.append_nil _).symm | exact congrArg _ (List.append_nil _) | (simp; done) | (simp [cellsS]; done)) ?_
    refine xnil ?_
    refine xthen ?_
    refine xseq ?_
    refine xregion ?_
    refine xvalP (pv_move rfl) rfl rfl ?_
    refine xnil ?_
    refine xthen ?_
    refine xblock ?_
    obtain ⟨Inv, ⟨m0, hI⟩, hS⟩ := h
    refine xloop (fun σ m => ∃ (x757 : Int), ∃ (f758 : Arr 4 (UInt64)), Inv (x757, f758) m ∧ σ = ⟨[(2, .v (.pointer (some ⟨b2, 0, none⟩))), (3, .v (.pointer (some ⟨b3, 0, none⟩))), (5, .v (.pointer (some ⟨b5, 0, none⟩))), (7, .sl 4 none (List.map E_palinode_api_Set l1)), (8, .v (.int .i64 ((l1.length : Int)))), (9, .v (.int .i64 x534)), (13, .v (.int .i64 x757))], [⟨b5, 26, ((List.map ew y735.l).flatten)⟩, ⟨b3, 26, ((List.map ew f758.l).flatten)⟩, ⟨b2, 26, ((List.map ew ((Arr.rep 4 (0 : UInt64))).l).flatten)⟩], []⟩) ⟨0, f535, hI, rfl⟩ ⟨(.cons rfl (.refl _) (.cons rfl (.refl _) (.cons rfl (.refl _) (.cons rfl (.refl _) (.cons rfl (.refl _) (.cons rfl (.refl _) (.cons rfl (.refl _) (.nil _)))))))), (SubM.of (.keep rfl rfl (.refl _) (.keep rfl rfl (.refl _) (.keep rfl rfl (.refl _) (.nil _)))) (.nil _))⟩ ?_
    rintro _ m ⟨x757, f758, hI, rfl⟩
    obtain ⟨ag2, hag2, h⟩ : ∃ ag, (∀ s', ag s' → ∃ m', m' < m ∧ Inv s' m') ∧ class_Union_l2 y735 x534 ag1 ag x757 f758 r := ⟨_, fun _ h => h, hS (x757, f758) _ hI⟩
    clear hS hI
    refine xseq ?_
    refine xregion ?_
    refine xvalP (pv_bin2 rfl rfl rfl) rfl rfl ?_
    refine xnil ?_
    refine xthen ?_
    refine xseq ?_
    by_cases hp781 : x757 < 4
    · replace h := h.1 hp781
      refine xcondT' (decide_eq_true hp781) rfl ?_
      refine xskipc ?_
      refine xthen ?_
      refine xseq ?_
      refine xblock ?_
      refine xseq ?_
      refine xregion ?_
      refine xvalP (pv_move rfl) rfl rfl ?_
      refine xvalP (pv_assign rfl) rfl rfl ?_
      refine xnil ?_
      refine xthen ?_
      refine xregionD (m := 9) (by kernel_rfl) rfl ?_
      obtain ⟨h790, h⟩ := h
      obtain ⟨y791, h790b, h⟩ := h
      obtain ⟨h792, h⟩ := h
      obtain ⟨y793, h792b, h⟩ := h
      obtain ⟨c795, h794, h⟩ := h
      obtain ⟨h796, h⟩ := h
      obtain ⟨y797, h796b, h⟩ := h
      refine xpval 0 rfl (pv_move rfl) rfl rfl (by kernel_rfl) (by kernel_rfl) (by kernel_rfl) (fun _ _ _ _ h => h) ?_
      refine xpval 1 rfl (pv_indexAddrBA h790 UndC.h ShpC.h rfl rfl) rfl rfl (by kernel_rfl) (by kernel_rfl) (by kernel_rfl) (fun _ _ _ _ h => h) ?_
      refine xpval 3 rfl (pv_move rfl) rfl rfl (by kernel_rfl) (by kernel_rfl) (by kernel_rfl) (fun _ _ _ _ h => h) ?_
      refine xpval 4 rfl (pv_indexAddrBA h792 UndC.h ShpC.h rfl rfl) rfl rfl (by kernel_rfl) (by kernel_rfl) (by kernel_rfl) (fun _ _ _ _ h => h) ?_
      refine xpvalE 2 [5] rfl (qv_loadA (f := ew) (a := f758) (k := 1) (off := 0) (i := (x757 : Int).toNat) 1 [] [] h790b (by first | rfl | exact (List.append_nil _).symm | exact List.append_nil _ | exact List.append_assoc _ _ _ | exact (List.append_assoc _ _ _).symm | exact congrArg _ (List.append_nil _).symm | exact congrArg _ (List.append_nil _) | (simp; done) | (simp [cellsS]; done)) (by first | rfl | omega | (simp only [List.length_cons, List.length_nil]; omega) | (simp only [seg_len, List.length_append, List.length_cons, List.length_nil]; omega)) (by decide) rfl ShpC.h rfl rfl) rfl rfl (by kernel_rfl) (by kernel_rfl) (by kernel_rfl) (fun _ _ _ _ h => h) ?_
      refine xpvalE 5 [] rfl (qv_loadA (f := ew) (a := y735) (k := 1) (off := 0) (i := (x757 : Int).toNat) 0 [] [] h792b (by first | rfl | exact (List.append_nil _).symm | exact List.append_nil _ | exact List.append_assoc _ _ _ | exact (List.append_assoc _ _ _).symm | exact congrArg _ (List.append_nil _).symm | exact congrArg _ (List.append_nil _) | (simp; done) | (simp [cellsS]; done)) (by first | rfl | omega | (simp only [List.length_cons, List.length_nil]; omega) | (simp only [seg_len, List.length_append, List.length_cons, List.length_nil]; omega)) (by decide) rfl ShpC.h rfl rfl) rfl rfl (by kernel_rfl) (by kernel_rfl) (by kernel_rfl) (fun _ _ _ _ h => h) ?_
      refine xpval 6 rfl (pv_wr h794 rfl rfl rfl) rfl rfl (by kernel_rfl) (by kernel_rfl) (by kernel_rfl) (fun _ _ _ _ h => h) ?_
      refine xpval 7 rfl (pv_indexAddrBA h796 UndC.h ShpC.h rfl rfl) rfl rfl (by kernel_rfl) (by kernel_rfl) (by kernel_rfl) (fun _ _ _ _ h => h) ?_
      refine xpstep (i := 8) (by kernel_rfl) rfl ?_
      refine wstoreA (f := ew) (a := f758) (k := 1) (off := 0) (i := (x757 : Int).toNat) 1 [] [] c795 h796b (by first | rfl | exact (List.append_nil _).symm | exact List.append_nil _ | exact List.append_assoc _ _ _ | exact (List.append_assoc _ _ _).symm | exact congrArg _ (List.append_nil _).symm | exact congrArg _ (List.append_nil _) | (simp; done) | (simp [cellsS]; done)) (by first | rfl | omega | (simp only [List.length_cons, List.length_nil]; omega) | (simp only [seg_len, List.length_append, List.length_cons, List.length_nil]; omega)) (by decide) ShpC.h rfl rfl rfl rfl (by first | rfl | exact seg_lenE (by rfl) | exact len_app rfl (seg_lenE (by rfl)) (by rfl) | exact len_app (seg_lenE (by rfl)) rfl (by rfl) | exact len_app rfl (len_app (seg_lenE (by rfl)) rfl (by rfl)) (by rfl) | (simp only [seg_len, cellsS, List.length_append, List.length_cons, List.length_nil]; done) | (simp only [seg_len, cellsS, List.length_append, List.length_cons, List.length_nil]; rfl)) rfl rfl ?_
      refine preb 1 ((List.map ew ((Arr.set f758 (x757 : Int).toNat c795)).l).flatten) rfl (by first | rfl | exact (List.append_nil _).symm | exact List.append_nil _ | exact List.append_assoc _ _ _ | exact (List.append_assoc _ _ _).symm | exact congrArg _ (List.append_nil _).symm | exact congrArg _ (List.append_nil _) | (simp; done) | (simp [cellsS]; done)) ?_
      refine xpdone (by kernel_rfl) ?_
      refine xin_normal ?_
      refine xthen ?_
      refine xregion ?_
      obtain ⟨h798, h⟩ := h
      refine xvalP (pv_addI h798 rfl rfl) rfl rfl ?_
      refine xvalP (pv_move rfl) rfl rfl ?_
      refine xnil ?_
      obtain ⟨m', hm, hI⟩ := hag2 _ h
      exact xagain ⟨(x757 + 1), (Arr.set f758 (x757 : Int).toNat c795), hI, rfl⟩ hm ⟨(.cons rfl (.refl _) (.cons rfl (.refl _) (.cons rfl (.refl _) (.cons rfl (.refl _) (.cons rfl (.refl _) (.cons rfl (.refl _) (.cons rfl (.refl _) (.nil _)))))))), (SubM.of (.keep rfl rfl (.refl _) (.keep rfl rfl (.refl _) (.keep rfl rfl (.refl _) (.nil _)))) (.nil _))⟩
    · replace h := h.2 hp781
      refine xcondF' (decide_eq_false hp781) rfl ?_
      refine xexit ?_
      refine xthen_exit ?_
      refine xthen_exit ?_
      refine xin_same rfl ?_
      refine xin_normal ?_
      refine xthen ?_
      refine xregion ?_
      obtain ⟨h799, h⟩ := h
      refine xvalP (pv_addI h799 rfl rfl) rfl rfl ?_
      refine xvalP (pv_move rfl) rfl rfl ?_
      refine xnil ?_
      obtain ⟨m', hm, hI⟩ := hag1 _ h
      exact xagain ⟨(x534 + 1), f758, hI, rfl⟩ hm ⟨(.cons rfl (.refl _) (.cons rfl (.refl _) (.cons rfl (.refl _) (.cons rfl (.refl _) (.cons rfl (.refl _) (.nil _)))))), (SubM.of (.drop (.keep rfl rfl (.refl _) (.keep rfl rfl (.refl _) (.nil _)))) (.nil _))⟩
  · replace h := h.2 hp670
    refine xcondF' (decide_eq_false hp670) rfl ?_
    refine xexit ?_
    refine xthen_exit ?_
    refine xthen_exit ?_
    refine xin_same rfl ?_
    refine xthen ?_
    refine xseq ?_
    refine xregion ?_
    refine xval (qv_loadP 0 [] ((List.map ew f535.l).flatten) [] (by first | rfl | exact (List.append_nil _).symm | exact List.append_nil _ | exact List.append_assoc _ _ _ | exact (List.append_assoc _ _ _).symm | exact congrArg _ (List.append_nil _).symm | exact congrArg _ (List.append_nil _) | (simp; done) | (simp [cellsS]; done)) (by first | rfl | exact seg_lenE (by rfl) | exact len_app rfl (seg_lenE (by rfl)) (by rfl) | exact len_app (seg_lenE (by rfl)) rfl (by rfl) | exact len_app rfl (len_app (seg_lenE (by rfl)) rfl (by rfl)) (by rfl) | (simp only [seg_len, cellsS, List.length_append, List.length_cons, List.length_nil]; done) | (simp only [seg_len, cellsS, List.length_append, List.length_cons, List.length_nil]; rfl)) (by first | rfl | exact seg_lenE (by rfl) | exact len_app rfl (seg_lenE (by rfl)) (by rfl) | exact len_app (seg_lenE (by rfl)) rfl (by rfl) | exact len_app rfl (len_app (seg_lenE (by rfl)) rfl (by rfl)) (by rfl) | (simp only [seg_len, cellsS, List.length_append, List.length_cons, List.length_nil]; done) | (simp only [seg_len, cellsS, List.length_append, List.length_cons, List.length_nil]; rfl)) (part_all (seg_lenE (by rfl))) ShpC.h rfl rfl) rfl rfl ?_
    refine xstoreP 1 [] ((List.map ew ((Arr.rep 4 (0 : UInt64))).l).flatten) [] (by first | rfl | exact (List.append_nil _).symm | exact List.append_nil _ | exact List.append_assoc _ _ _ | exact (List.append_assoc _ _ _).symm | exact congrArg _ (List.append_nil _).symm | exact congrArg _ (List.append_nil _) | (simp; done) | (simp [cellsS]; done)) (by first | rfl | exact seg_lenE (by rfl) | exact len_app rfl (seg_lenE (by rfl)) (by rfl) | exact len_app (seg_lenE (by rfl)) rfl (by rfl) | exact len_app rfl (len_app (seg_lenE (by rfl)) rfl (by rfl)) (by rfl) | (simp only [seg_len, cellsS, List.length_append, List.length_cons, List.length_nil]; done) | (simp only [seg_len, cellsS, List.length_append, List.length_cons, List.length_nil]; rfl)) (by first | rfl | exact seg_lenE (by rfl) | exact len_app rfl (seg_lenE (by rfl)) (by rfl) | exact len_app (seg_lenE (by rfl)) rfl (by rfl) | exact len_app rfl (len_app (seg_lenE (by rfl)) rfl (by rfl)) (by rfl) | (simp only [seg_len, cellsS, List.length_append, List.length_cons, List.length_nil]; done) | (simp only [seg_len, cellsS, List.length_append, List.length_cons, List.length_nil]; rfl)) ShpC.h rfl rfl rfl rfl (by first | rfl | exact seg_lenE (by rfl) | exact len_app rfl (seg_lenE (by rfl)) (by rfl) | exact len_app (seg_lenE (by rfl)) rfl (by rfl) | exact len_app rfl (len_app (seg_lenE (by rfl)) rfl (by rfl)) (by rfl) | (simp only [seg_len, cellsS, List.length_append, List.length_cons, List.length_nil]; done) | (simp only [seg_len, cellsS, List.length_append, List.length_cons, List.length_nil]; rfl)) rfl ?_
    refine xreb 1 ((List.map ew f535.l).flatten) rfl (by first | rfl | exact (List.append_nil _).symm | exact List.append_nil _ | exact List.append_assoc _ _ _ | exact (List.append_assoc _ _ _).symm | exact congrArg _ (List.append_nil _).symm | exact congrArg _ (List.append_nil _) | (simp; done) | (simp [cellsS]; done)) ?_
    refine xnil ?_
    refine xthen ?_
    refine xretc ?_
    replace h := h.symm
    subst h
    exact xretL (rs := [.cell 2 26]) (ss := [.agg ((List.map ew f535.l).flatten)]) hg rfl (by refine RetL.cell 1 ShpC.h rfl rfl (part_midE (pre := []) (mid := ((List.map ew f535.l).flatten)) (post := []) (by first | rfl | exact (List.append_nil _).symm | exact List.append_nil _ | exact List.append_assoc _ _ _ | exact (List.append_assoc _ _ _).symm | exact congrArg _ (List.append_nil _).symm | exact congrArg _ (List.append_nil _) | (simp; done) | (simp [cellsS]; done)) (by first | rfl | exact seg_lenE (by rfl) | exact len_app rfl (seg_lenE (by rfl)) (by rfl) | exact len_app (seg_lenE (by rfl)) rfl (by rfl) | exact len_app rfl (len_app (seg_lenE (by rfl)) rfl (by rfl)) (by rfl) | (simp only [seg_len, cellsS, List.length_append, List.length_cons, List.length_nil]; done) | (simp only [seg_len, cellsS, List.length_append, List.length_cons, List.length_nil]; rfl)) (by first | rfl | exact seg_lenE (by rfl) | exact len_app rfl (seg_lenE (by rfl)) (by rfl) | exact len_app (seg_lenE (by rfl)) rfl (by rfl) | exact len_app rfl (len_app (seg_lenE (by rfl)) rfl (by rfl)) (by rfl) | (simp only [seg_len, cellsS, List.length_append, List.length_cons, List.length_nil]; done) | (simp only [seg_len, cellsS, List.length_append, List.length_cons, List.length_nil]; rfl)) (part_all (seg_lenE (by rfl)))) (len_midE (pre := []) (mid := ((List.map ew f535.l).flatten)) (post := []) (by first | rfl | exact (List.append_nil _).symm | exact List.append_nil _ | exact List.append_assoc _ _ _ | exact (List.append_assoc _ _ _).symm | exact congrArg _ (List.append_nil _).symm | exact congrArg _ (List.append_nil _) | (simp; done) | (simp [cellsS]; done)) (by first | rfl | exact seg_lenE (by rfl) | exact len_app rfl (seg_lenE (by rfl)) (by rfl) | exact len_app (seg_lenE (by rfl)) rfl (by rfl) | exact len_app rfl (len_app (seg_lenE (by rfl)) rfl (by rfl)) (by rfl) | (simp only [seg_len, cellsS, List.length_append, List.length_cons, List.length_nil]; done) | (simp only [seg_len, cellsS, List.length_append, List.length_cons, List.length_nil]; rfl)) (by first | rfl | exact seg_lenE (by rfl) | exact len_app rfl (seg_lenE (by rfl)) (by rfl) | exact len_app (seg_lenE (by rfl)) rfl (by rfl) | exact len_app rfl (len_app (seg_lenE (by rfl)) rfl (by rfl)) (by rfl) | (simp only [seg_len, cellsS, List.length_append, List.length_cons, List.length_nil]; done) | (simp only [seg_len, cellsS, List.length_append, List.length_cons, List.length_nil]; rfl))) (by first | with_reducible exact Wk.refl _ | exact Wk.nil_own _ | exact Wk.nil_pl _ | with_reducible exact Wk.tok _ _ _ | exact Wk.tok _ _ _ | exact .eq rfl) ?_; exact RetL.nil) (SubM.of (.nil _) (.nil _)) ⟨rfl, rfl, rfl⟩
/-- class.Not -/
def class_Not_l1 (ag1 : (Int × (Arr 4 (UInt64))) → Prop) (x44 : Int) (f45 : Arr 4 (UInt64)) (r : (Arr 4 (UInt64))) : Prop :=
  ((x44 < 4 → (0 ≤ (x44 : Int) ∧ (x44 : Int) < 4) ∧ ∃ y60 : UInt64, f45.l[(x44 : Int).toNat]? = some y60 ∧ ∃ c62 : UInt64, (c62.toNat : Int) = IntKind.u64.wrap (BitVec.ofInt IntKind.u64.bits IntKind.u64.max ^^^ BitVec.ofInt IntKind.u64.bits (y60.toNat : Int)).toNat ∧ (0 ≤ (x44 : Int) ∧ (x44 : Int) < 4) ∧ ∃ y64 : UInt64, f45.l[(x44 : Int).toNat]? = some y64 ∧ InR (x44 + 1) ∧ ag1 ((x44 + 1), (Arr.set f45 (x44 : Int).toNat c62))) ∧ (¬ (x44 < 4) → r = f45))
def class_Not_R (sv1 : Arr 4 (UInt64)) (r : (Arr 4 (UInt64))) : Prop :=
  LoopR (fun ag1 s => class_Not_l1 ag1 s.1 s.2 r) (0, sv1)
def class_Not_l1_ev (fuel : Nat) (ag1e : (Int × (Arr 4 (UInt64))) → Option ((Arr 4 (UInt64)))) (x44 : Int) (f45 : Arr 4 (UInt64)) : Option ((Arr 4 (UInt64))) :=
  (if x44 < 4 then (if (0 ≤ (x44 : Int) ∧ (x44 : Int) < 4) then ((f45.l[(x44 : Int).toNat]?).bind fun y60 => (exL (IntKind.u64.wrap (BitVec.ofInt IntKind.u64.bits IntKind.u64.max ^^^ BitVec.ofInt IntKind.u64.bits (y60.toNat : Int)).toNat) fun c62 => (if (0 ≤ (x44 : Int) ∧ (x44 : Int) < 4) then ((f45.l[(x44 : Int).toNat]?).bind fun y64 => (if InR (x44 + 1) then ag1e ((x44 + 1), (Arr.set f45 (x44 : Int).toNat c62)) else none)) else none))) else none) else some f45)
theorem class_Not_l1_ok {fuel : Nat} {ag1e : (Int × (Arr 4 (UInt64))) → Option ((Arr 4 (UInt64)))} {ag1 : (Int × (Arr 4 (UInt64))) → Prop} {x44 : Int} {f45 : Arr 4 (UInt64)} {r : (Arr 4 (UInt64))} (hagag1 : ∀ s, ag1e s = some r → ag1 s) (h : class_Not_l1_ev fuel ag1e x44 f45 = some r) : class_Not_l1 ag1 x44 f45 r := by
  unfold class_Not_l1_ev at h
  unfold class_Not_l1
  refine ⟨fun g146 => ?_, fun g146 => ?_⟩
  · rw [if_pos g146] at h
    obtain ⟨g147, h⟩ := if_ok h
    refine ⟨g147, ?_⟩
    obtain ⟨q148, g148, h⟩ := bind_ok h
    refine ⟨q148, g148, ?_⟩
    obtain ⟨q149, g149, h⟩ := exL_ok h
    refine ⟨q149, g149, ?_⟩
    obtain ⟨g150, h⟩ := if_ok h
    refine ⟨g150, ?_⟩
    obtain ⟨q151, g151, h⟩ := bind_ok h
    refine ⟨q151, g151, ?_⟩
    obtain ⟨g152, h⟩ := if_ok h
    refine ⟨g152, ?_⟩
    exact hagag1 _ h
  · rw [if_neg g146] at h
    exact (Option.some.inj h).symm
def class_Not_ev (fuel : Nat) (sv1 : Arr 4 (UInt64)) : Option ((Arr 4 (UInt64))) :=
  (loopE (fun ag1e s => class_Not_l1_ev fuel ag1e s.1 s.2) fuel (0, sv1))
theorem class_Not_ok {fuel : Nat} {sv1 : Arr 4 (UInt64)} {r : (Arr 4 (UInt64))} (h : class_Not_ev fuel sv1 = some r) : class_Not_R sv1 r := by
  unfold class_Not_ev at h
  unfold class_Not_R
  refine loopE_ok ?_ h
  intro ae ag s hag h
  exact class_Not_l1_ok hag h
set_option maxHeartbeats 4000000 in
theorem class_Not_con (sv1 : Arr 4 (UInt64)) (r : (Arr 4 (UInt64))) (h : class_Not_R sv1 r) : Con Try.prog 13 [.agg ((List.map ew sv1.l).flatten)] [] [] (Ret (.agg ((List.map ew r.l).flatten))) := by
  refine xenter Try.func13 rfl rfl fun g hg => ?_
  simp only [Try.ntmps13, slots]
  refine xseq ?_
  refine xregion ?_
  refine xbox rfl rfl rfl rfl fun b1 => ?_
  refine xalloc InfC.h rfl rfl fun b2 => ?_
  refine xreb 0 ((List.map ew ((Arr.rep 4 (0 : UInt64))).l).flatten) rfl rfl ?_
  refine xnil ?_
  refine xthen ?_
  refine xseq ?_
  refine xseq ?_
  refine xregion ?_
  refine xvalP (pv_move rfl) rfl rfl ?_
  refine xnil ?_
  refine xthen ?_
  refine xblock ?_
  obtain ⟨Inv, ⟨m0, hI⟩, hS⟩ := h
  refine xloop (fun σ m => ∃ (x44 : Int), ∃ (f45 : Arr 4 (UInt64)), Inv (x44, f45) m ∧ σ = ⟨[(1, .v (.pointer (some ⟨b1, 0, none⟩))), (2, .v (.pointer (some ⟨b2, 0, none⟩))), (4, .v (.int .i64 x44))], [⟨b2, 26, ((List.map ew ((Arr.rep 4 (0 : UInt64))).l).flatten)⟩, ⟨b1, 26, ((List.map ew f45.l).flatten)⟩], []⟩) ⟨0, sv1, hI, rfl⟩ ⟨(.cons rfl (.refl _) (.cons rfl (.refl _) (.cons rfl (.refl _) (.nil _)))), (SubM.of (.keep rfl rfl (.refl _) (.keep rfl rfl (.refl _) (.nil _))) (.nil _))⟩ ?_
  rintro _ m ⟨x44, f45, hI, rfl⟩
  obtain ⟨ag1, hag1, h⟩ : ∃ ag, (∀ s', ag s' → ∃ m', m' < m ∧ Inv s' m') ∧ class_Not_l1 ag x44 f45 r := ⟨_, fun _ h => h, hS (x44, f45) _ hI⟩
  clear hS hI
  refine xseq ?_
  refine xregion ?_
  refine xvalP (pv_bin2 rfl rfl rfl) rfl rfl ?_
  refine xnil ?_
  refine xthen ?_
  refine xseq ?_
  by_cases hp58 : x44 < 4
  · replace h := h.1 hp58
    refine xcondT' (decide_eq_true hp58) rfl ?_
    refine xskipc ?_
    refine xthen ?_
    refine xseq ?_
    refine xblock ?_
    refine xseq ?_
    refine xregion ?_
    refine xvalP (pv_move rfl) rfl rfl ?_
    refine xvalP (pv_assign rfl) rfl rfl ?_
    refine xnil ?_
    refine xthen ?_
    refine xregion ?_
    refine xvalP (pv_move rfl) rfl rfl ?_
    refine xvalP (pv_move rfl) rfl rfl ?_
    obtain ⟨h59, h⟩ := h
    obtain ⟨y60, h59b, h⟩ := h
    refine xvalP (pv_indexAddrBA h59 UndC.h ShpC.h rfl rfl) rfl rfl ?_
    refine xval (qv_loadA (f := ew) (a := f45) (k := 1) (off := 0) (i := (x44 : Int).toNat) 1 [] [] h59b (by first | rfl | exact (List.append_nil _).symm | exact List.append_nil _ | exact List.append_assoc _ _ _ | exact (List.append_assoc _ _ _).symm | exact congrArg _ (List.append_nil _).symm | exact congrArg _ (List.append_nil _) | (simp; done) | (simp [cellsS]; done)) (by first | rfl | omega | (simp only [List.length_cons, List.length_nil]; omega) | (simp only [seg_len, List.length_append, List.length_cons, List.length_nil]; omega)) (by decide) rfl ShpC.h rfl rfl) rfl rfl ?_
    obtain ⟨c62, h61, h⟩ := h
    refine xvalP (pv_xorU h61 rfl) rfl rfl ?_
    obtain ⟨h63, h⟩ := h
    obtain ⟨y64, h63b, h⟩ := h
    refine xvalP (pv_indexAddrBA h63 UndC.h ShpC.h rfl rfl) rfl rfl ?_
    refine xstoreA (f := ew) (a := f45) (k := 1) (off := 0) (i := (x44 : Int).toNat) 1 [] [] c62 h63b (by first | rfl | exact (List.append_nil _).symm | exact List.append_nil _ | exact List.append_assoc _ _ _ | exact (List.append_assoc _ _ _).symm | exact congrArg _ (List.append_nil _).symm | exact congrArg _ (List.append_nil _) | (simp; done) | (simp [cellsS]; done)) (by first | rfl | omega | (simp only [List.length_cons, List.length_nil]; omega) | (simp only [seg_len, List.length_append, List.length_cons, List.length_nil]; omega)) (by decide) ShpC.h rfl rfl rfl rfl (by first | rfl | exact seg_lenE (by rfl) | exact len_app rfl (seg_lenE (by rfl)) (by rfl) | exact len_app (seg_lenE (by rfl)) rfl (by rfl) | exact len_app rfl (len_app (seg_lenE (by rfl)) rfl (by rfl)) (by rfl) | (simp only [seg_len, cellsS, List.length_append, List.length_cons, List.length_nil]; done) | (simp only [seg_len, cellsS, List.length_append, List.length_cons, List.length_nil]; rfl)) rfl rfl ?_
    refine xreb 1 ((List.map ew ((Arr.set f45 (x44 : Int).toNat c62)).l).flatten) rfl (by first | rfl | exact (List.append_nil _).symm | exact List.append_nil _ | exact List.append_assoc _ _ _ | exact (List.append_assoc _ _ _).symm | exact congrArg _ (List.append_nil _).symm | exact congrArg _ (List.append_nil _) | (simp; done) | (simp [cellsS]; done)) ?_
    refine xnil ?_
    refine xin_normal ?_
    refine xthen ?_
    refine xregion ?_
    obtain ⟨h65, h⟩ := h
    refine xvalP (pv_addI h65 rfl rfl) rfl rfl ?_
    refine xvalP (pv_move rfl) rfl rfl ?_
    refine xnil ?_
    obtain ⟨m', hm, hI⟩ := hag1 _ h
    exact xagain ⟨(x44 + 1), (Arr.set f45 (x44 : Int).toNat c62), hI, rfl⟩ hm ⟨(.cons rfl (.refl _) (.cons rfl (.refl _) (.cons rfl (.refl _) (.nil _)))), (SubM.of (.keep rfl rfl (.refl _) (.keep rfl rfl (.refl _) (.nil _))) (.nil _))⟩
  · replace h := h.2 hp58
    refine xcondF' (decide_eq_false hp58) rfl ?_
    refine xexit ?_
    refine xthen_exit ?_
    refine xthen_exit ?_
    refine xin_same rfl ?_
    refine xthen ?_
    refine xseq ?_
    refine xregion ?_
    refine xval (qv_loadP 1 [] ((List.map ew f45.l).flatten) [] (by first | rfl | exact (List.append_nil _).symm | exact List.append_nil _ | exact List.append_assoc _ _ _ | exact (List.append_assoc _ _ _).symm | exact congrArg _ (List.append_nil _).symm | exact congrArg _ (List.append_nil _) | (simp; done) | (simp [cellsS]; done)) (by first | rfl | exact seg_lenE (by rfl) | exact len_app rfl (seg_lenE (by rfl)) (by rfl) | exact len_app (seg_lenE (by rfl)) rfl (by rfl) | exact len_app rfl (len_app (seg_lenE (by rfl)) rfl (by rfl)) (by rfl) | (simp only [seg_len, cellsS, List.length_append, List.length_cons, List.length_nil]; done) | (simp only [seg_len, cellsS, List.length_append, List.length_cons, List.length_nil]; rfl)) (by first | rfl | exact seg_lenE (by rfl) | exact len_app rfl (seg_lenE (by rfl)) (by rfl) | exact len_app (seg_lenE (by rfl)) rfl (by rfl) | exact len_app rfl (len_app (seg_lenE (by rfl)) rfl (by rfl)) (by rfl) | (simp only [seg_len, cellsS, List.length_append, List.length_cons, List.length_nil]; done) | (simp only [seg_len, cellsS, List.length_append, List.length_cons, List.length_nil]; rfl)) (part_all (seg_lenE (by rfl))) ShpC.h rfl rfl) rfl rfl ?_
    refine xstoreP 0 [] ((List.map ew ((Arr.rep 4 (0 : UInt64))).l).flatten) [] (by first | rfl | exact (List.append_nil _).symm | exact List.append_nil _ | exact List.append_assoc _ _ _ | exact (List.append_assoc _ _ _).symm | exact congrArg _ (List.append_nil _).symm | exact congrArg _ (List.append_nil _) | (simp; done) | (simp [cellsS]; done)) (by first | rfl | exact seg_lenE (by rfl) | exact len_app rfl (seg_lenE (by rfl)) (by rfl) | exact len_app (seg_lenE (by rfl)) rfl (by rfl) | exact len_app rfl (len_app (seg_lenE (by rfl)) rfl (by rfl)) (by rfl) | (simp only [seg_len, cellsS, List.length_append, List.length_cons, List.length_nil]; done) | (simp only [seg_len, cellsS, List.length_append, List.length_cons, List.length_nil]; rfl)) (by first | rfl | exact seg_lenE (by rfl) | exact len_app rfl (seg_lenE (by rfl)) (by rfl) | exact len_app (seg_lenE (by rfl)) rfl (by rfl) | exact len_app rfl (len_app (seg_lenE (by rfl)) rfl (by rfl)) (by rfl) | (simp only [seg_len, cellsS, List.length_append, List.length_cons, List.length_nil]; done) | (simp only [seg_len, cellsS, List.length_append, List.length_cons, List.length_nil]; rfl)) ShpC.h rfl rfl rfl rfl (by first | rfl | exact seg_lenE (by rfl) | exact len_app rfl (seg_lenE (by rfl)) (by rfl) | exact len_app (seg_lenE (by rfl)) rfl (by rfl) | exact len_app rfl (len_app (seg_lenE (by rfl)) rfl (by rfl)) (by rfl) | (simp only [seg_len, cellsS, List.length_append, List.length_cons, List.length_nil]; done) | (simp only [seg_len, cellsS, List.length_append, List.length_cons, List.length_nil]; rfl)) rfl ?_
    refine xreb 0 ((List.map ew f45.l).flatten) rfl (by first | rfl | exact (List.append_nil _).symm | exact List.append_nil _ | exact List.append_assoc _ _ _ | exact (List.append_assoc _ _ _).symm | exact congrArg _ (List.append_nil _).symm | exact congrArg _ (List.append_nil _) | (simp; done) | (simp [cellsS]; done)) ?_
    refine xnil ?_
    refine xthen ?_
    refine xretc ?_
    replace h := h.symm
    subst h
    exact xretL (rs := [.cell 2 26]) (ss := [.agg ((List.map ew f45.l).flatten)]) hg rfl (by refine RetL.cell 0 ShpC.h rfl rfl (part_midE (pre := []) (mid := ((List.map ew f45.l).flatten)) (post := []) (by first | rfl | exact (List.append_nil _).symm | exact List.append_nil _ | exact List.append_assoc _ _ _ | exact (List.append_assoc _ _ _).symm | exact congrArg _ (List.append_nil _).symm | exact congrArg _ (List.append_nil _) | (simp; done) | (simp [cellsS]; done)) (by first | rfl | exact seg_lenE (by rfl) | exact len_app rfl (seg_lenE (by rfl)) (by rfl) | exact len_app (seg_lenE (by rfl)) rfl (by rfl) | exact len_app rfl (len_app (seg_lenE (by rfl)) rfl (by rfl)) (by rfl) | (simp only [seg_len, cellsS, List.length_append, List.length_cons, List.length_nil]; done) | (simp only [seg_len, cellsS, List.length_append, List.length_cons, List.length_nil]; rfl)) (by first | rfl | exact seg_lenE (by rfl) | exact len_app rfl (seg_lenE (by rfl)) (by rfl) | exact len_app (seg_lenE (by rfl)) rfl (by rfl) | exact len_app rfl (len_app (seg_lenE (by rfl)) rfl (by rfl)) (by rfl) | (simp only [seg_len, cellsS, List.length_append, List.length_cons, List.length_nil]; done) | (simp only [seg_len, cellsS, List.length_append, List.length_cons, List.length_nil]; rfl)) (part_all (seg_lenE (by rfl)))) (len_midE (pre := []) (mid := ((List.map ew f45.l).flatten)) (post := []) (by first | rfl | exact (List.append_nil _).symm | exact List.append_nil _ | exact List.append_assoc _ _ _ | exact (List.append_assoc _ _ _).symm | exact congrArg _ (List.append_nil _).symm | exact congrArg _ (List.append_nil _) | (simp; done) | (simp [cellsS]; done)) (by first | rfl | exact seg_lenE (by rfl) | exact len_app rfl (seg_lenE (by rfl)) (by rfl) | exact len_app (seg_lenE (by rfl)) rfl (by rfl) | exact len_app rfl (len_app (seg_lenE (by rfl)) rfl (by rfl)) (by rfl) | (simp only [seg_len, cellsS, List.length_append, List.length_cons, List.length_nil]; done) | (simp only [seg_len, cellsS, List.length_append, List.length_cons, List.length_nil]; rfl)) (by first | rfl | exact seg_lenE (by rfl) | exact len_app rfl (seg_lenE (by rfl)) (by rfl) | exact len_app (seg_lenE (by rfl)) rfl (by rfl) | exact len_app rfl (len_app (seg_lenE (by rfl)) rfl (by rfl)) (by rfl) | (simp only [seg_len, cellsS, List.length_append, List.length_cons, List.length_nil]; done) | (simp only [seg_len, cellsS, List.length_append, List.length_cons, List.length_nil]; rfl))) (by first | with_reducible exact Wk.refl _ | exact Wk.nil_own _ | exact Wk.nil_pl _ | with_reducible exact Wk.tok _ _ _ | exact Wk.tok _ _ _ | exact .eq rfl) ?_; exact RetL.nil) (SubM.of (.nil _) (.nil _)) ⟨rfl, rfl, rfl⟩
end Go.Proofs.Ytgplmognfmjllaa
