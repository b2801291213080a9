/- What functions' texts ask for, and the walks that show it (printed by a program). -/
import Derived.Test.YtgplmognfmjllaaGKp1
namespace Go.Proofs.Ytgplmognfmjllaa
/-- brack.named -/
def brack_named_R (bv1 : List UInt8) (atv2 : Int) (r : (UInt8 × (Arr 4 (UInt64)) × Bool × Int) × Int) : Prop :=
  InR (atv2 + 1) ∧ 0 ≤ ((atv2 + 1) : Int) ∧ ∃ y4 : UInt8, bv1[((atv2 + 1) : Int).toNat]? = some y4 ∧ InR (atv2 + 2) ∧ (0 ≤ ((atv2 + 2) : Int) ∧ ((atv2 + 2) : Int) ≤ (bv1.length : Int)) ∧ ∃ y9 : Int, bytes_Index_R (bv1.drop ((atv2 + 2) : Int).toNat) ([y4, (93 : UInt8)]) y9 ∧ ((y9 < 0 → r = (((0 : UInt8), (Arr.rep 4 (0 : UInt64)), false, 0), 11)) ∧ (¬ (y9 < 0) → InR (atv2 + 2) ∧ InR (atv2 + 2) ∧ InR ((atv2 + 2) + y9) ∧ (0 ≤ ((atv2 + 2) : Int) ∧ ((atv2 + 2) : Int) ≤ (((atv2 + 2) + y9) : Int) ∧ (((atv2 + 2) + y9) : Int) ≤ (bv1.length : Int)) ∧ InR (atv2 + y9) ∧ InR ((atv2 + y9) + 4) ∧ (((y4.toNat : Int) = 58 → ∃ y31 : (Arr 4 (UInt64)) × Bool, class_Named_R (⟨(((bv1.take (((atv2 + 2) + y9) : Int).toNat).drop ((atv2 + 2) : Int).toNat)).toArray⟩ : ByteArray) y31 ∧ ((¬ (y31.2 = true) → r = (((0 : UInt8), (Arr.rep 4 (0 : UInt64)), false, 0), 12)) ∧ (¬ (¬ (y31.2 = true)) → r = (((0 : UInt8), y31.1, true, ((atv2 + y9) + 4)), 0)))) ∧ (¬ ((y4.toNat : Int) = 58) → ((¬ (((((bv1.take (((atv2 + 2) + y9) : Int).toNat).drop ((atv2 + 2) : Int).toNat)).length : Int) = 1) → r = (((0 : UInt8), (Arr.rep 4 (0 : UInt64)), false, 0), 12)) ∧ (¬ (¬ (((((bv1.take (((atv2 + 2) + y9) : Int).toNat).drop ((atv2 + 2) : Int).toNat)).length : Int) = 1)) → 0 ≤ (0 : Int) ∧ ∃ y40 : UInt8, (((bv1.take (((atv2 + 2) + y9) : Int).toNat).drop ((atv2 + 2) : Int).toNat))[(0 : Int).toNat]? = some y40 ∧ r = ((y40, (Arr.rep 4 (0 : UInt64)), false, ((atv2 + y9) + 4)), 0)))))))
def brack_named_ev (fuel : Nat) (bv1 : List UInt8) (atv2 : Int) : Option ((UInt8 × (Arr 4 (UInt64)) × Bool × Int) × Int) :=
  (if InR (atv2 + 1) then (if 0 ≤ ((atv2 + 1) : Int) then ((bv1[((atv2 + 1) : Int).toNat]?).bind fun y4 => (if InR (atv2 + 2) then (if (0 ≤ ((atv2 + 2) : Int) ∧ ((atv2 + 2) : Int) ≤ (bv1.length : Int)) then ((bytes_Index_ev fuel (bv1.drop ((atv2 + 2) : Int).toNat) ([y4, (93 : UInt8)])).bind fun y9 => (if y9 < 0 then some (((0 : UInt8), (Arr.rep 4 (0 : UInt64)), false, 0), 11) else (if InR (atv2 + 2) then (if InR (atv2 + 2) then (if InR ((atv2 + 2) + y9) then (if (0 ≤ ((atv2 + 2) : Int) ∧ ((atv2 + 2) : Int) ≤ (((atv2 + 2) + y9) : Int) ∧ (((atv2 + 2) + y9) : Int) ≤ (bv1.length : Int)) then (if InR (atv2 + y9) then (if InR ((atv2 + y9) + 4) then (if (y4.toNat : Int) = 58 then ((class_Named_ev fuel (⟨(((bv1.take (((atv2 + 2) + y9) : Int).toNat).drop ((atv2 + 2) : Int).toNat)).toArray⟩ : ByteArray)).bind fun y31 => (if ¬ (y31.2 = true) then some (((0 : UInt8), (Arr.rep 4 (0 : UInt64)), false, 0), 12) else some (((0 : UInt8), y31.1, true, ((atv2 + y9) + 4)), 0))) else (if ¬ (((((bv1.take (((atv2 + 2) + y9) : Int).toNat).drop ((atv2 + 2) : Int).toNat)).length : Int) = 1) then some (((0 : UInt8), (Arr.rep 4 (0 : UInt64)), false, 0), 12) else (if 0 ≤ (0 : Int) then (((((bv1.take (((atv2 + 2) + y9) : Int).toNat).drop ((atv2 + 2) : Int).toNat))[(0 : Int).toNat]?).bind fun y40 => some ((y40, (Arr.rep 4 (0 : UInt64)), false, ((atv2 + y9) + 4)), 0)) else none))) else none) else none) else none) else none) else none) else none))) else none) else none)) else none) else none)
theorem brack_named_ok {fuel : Nat} {bv1 : List UInt8} {atv2 : Int} {r : (UInt8 × (Arr 4 (UInt64)) × Bool × Int) × Int} (h : brack_named_ev fuel bv1 atv2 = some r) : brack_named_R bv1 atv2 r := by
  unfold brack_named_ev at h
  unfold brack_named_R
  obtain ⟨g67, h⟩ := if_ok h
  refine ⟨g67, ?_⟩
  obtain ⟨g68, h⟩ := if_ok h
  refine ⟨g68, ?_⟩
  obtain ⟨q69, g69, h⟩ := bind_ok h
  refine ⟨q69, g69, ?_⟩
  obtain ⟨g70, h⟩ := if_ok h
  refine ⟨g70, ?_⟩
  obtain ⟨g71, h⟩ := if_ok h
  refine ⟨g71, ?_⟩
  obtain ⟨q72, g72, h⟩ := bind_ok h
  refine ⟨q72, bytes_Index_ok g72, ?_⟩
  refine ⟨fun g73 => ?_, fun g73 => ?_⟩
  · rw [if_pos g73] at h
    exact (Option.some.inj h).symm
  · rw [if_neg g73] at h
    obtain ⟨g74, h⟩ := if_ok h
    refine ⟨g74, ?_⟩
    obtain ⟨g75, h⟩ := if_ok h
    refine ⟨g75, ?_⟩
    obtain ⟨g76, h⟩ := if_ok h
    refine ⟨g76, ?_⟩
    obtain ⟨g77, h⟩ := if_ok h
    refine ⟨g77, ?_⟩
    obtain ⟨g78, h⟩ := if_ok h
    refine ⟨g78, ?_⟩
    obtain ⟨g79, h⟩ := if_ok h
    refine ⟨g79, ?_⟩
    refine ⟨fun g80 => ?_, fun g80 => ?_⟩
    · rw [if_pos g80] at h
      obtain ⟨q81, g81, h⟩ := bind_ok h
      refine ⟨q81, class_Named_ok g81, ?_⟩
      refine ⟨fun g82 => ?_, fun g82 => ?_⟩
      · rw [if_pos g82] at h
        exact (Option.some.inj h).symm
      · rw [if_neg g82] at h
        exact (Option.some.inj h).symm
    · rw [if_neg g80] at h
      refine ⟨fun g83 => ?_, fun g83 => ?_⟩
      · rw [if_pos g83] at h
        exact (Option.some.inj h).symm
      · rw [if_neg g83] at h
        obtain ⟨g84, h⟩ := if_ok h
        refine ⟨g84, ?_⟩
        obtain ⟨q85, g85, h⟩ := bind_ok h
        refine ⟨q85, g85, ?_⟩
        exact (Option.some.inj h).symm
set_option maxHeartbeats 4000000 in
theorem brack_named_con (bv1 : List UInt8) (atv2 : Int) (r : (UInt8 × (Arr 4 (UInt64)) × Bool × Int) × Int) (h : brack_named_R bv1 atv2 r) : Con Try.prog 28 [.sl 1 none (List.map eb bv1), .v (.int .i64 atv2)] [] [] (fun rr bx tk => rr = .tup [.agg ([.v (.int .u8 ((r.1.1.toNat : Int)))] ++ ((List.map ew r.1.2.1.l).flatten ++ [.v (.bool r.1.2.2.1), .v (.int .i64 r.1.2.2.2)])), .v (.int .i64 r.2)] ∧ bx = [] ∧ tk = []) := by
  refine xenter Try.func28 rfl rfl fun g hg => ?_
  simp only [Try.ntmps28, slots]
  refine xseq ?_
  refine xregion ?_
  refine xalloc InfC.h rfl rfl fun b4 => ?_
  refine xreb 0 ([.v (.int .u8 0)] ++ ((List.map ew ((Arr.rep 4 (0 : UInt64))).l).flatten ++ [.v (.bool false), .v (.int .i64 0)])) rfl rfl ?_
  refine xvalP (pv_assign rfl) rfl rfl ?_
  refine xnil ?_
  refine xthen ?_
  refine xseq ?_
  refine xregion ?_
  refine xvalP (pv_move rfl) rfl rfl ?_
  refine xvalP (pv_move rfl) rfl rfl ?_
  obtain ⟨h3, h⟩ := h
  refine xvalP (pv_addI h3 rfl rfl) rfl rfl ?_
  obtain ⟨h5a, h⟩ := h
  obtain ⟨y4, h5b, h⟩ := h
  refine xvalP (pv_indexAddrM h5a h5b UndC.h ShpC.h rfl rfl) rfl rfl ?_
  refine xval (qv_load ShpC.h rfl rfl rfl) rfl rfl ?_
  refine xvalP (pv_assign rfl) rfl rfl ?_
  refine xnil ?_
  refine xthen ?_
  refine xseq ?_
  refine xregion ?_
  refine xvalP (pv_move rfl) rfl rfl ?_
  refine xvalP (pv_move rfl) rfl rfl ?_
  obtain ⟨h6, h⟩ := h
  refine xvalP (pv_addI h6 rfl rfl) rfl rfl ?_
  obtain ⟨h7, h⟩ := h
  refine xvalP (pv_sliceLo h7 UndC.h ShpC.h rfl rfl) rfl rfl ?_
  refine xvalP (pv_move rfl) rfl rfl ?_
  refine xbuildSliceM (f := eb) [y4, (93 : UInt8)] UndC.h InfC.h rfl rfl (by first | exact wkR_of rfl | (repeat (first | exact WkR.nil | refine WkR.cons (by (repeat (first | exact WkL.nil | refine WkL.cons (by first | with_reducible exact Wk.refl _ | exact Wk.nil_own _ | exact Wk.nil_pl _ | with_reducible exact Wk.tok _ _ _ | exact Wk.tok _ _ _ | exact Wk.eq (by first | rfl | (simp []; done) | (simp []; omega))) ?_))) ?_))) rfl rfl rfl rfl fun s22 => ?_
  obtain ⟨y9, h8, h⟩ := h
  refine xcall0 (bytes_Index_con (bv1.drop ((atv2 + 2) : Int).toNat) ([y4, (93 : UInt8)]) _ h8) Try.func30 (by kernel_rfl) rfl (.cons rfl (.refl _) (.cons rfl (.tok _ _ _) .nil)) rfl rfl ?_
  refine xvalP (pv_assign rfl) rfl rfl ?_
  refine xnil ?_
  refine xthen ?_
  refine xseq ?_
  refine xseq ?_
  refine xregion ?_
  refine xvalP (pv_move rfl) rfl rfl ?_
  refine xvalP (pv_bin2 rfl rfl rfl) rfl rfl ?_
  refine xnil ?_
  refine xthen ?_
  by_cases hp13 : y9 < 0
  · replace h := h.1 hp13
    refine xcondT' (decide_eq_true hp13) rfl ?_
    refine xseq ?_
    refine xregion ?_
    refine xvalP (pv_buildC (cs := ([.v (.int .u8 0)] ++ ((List.map ew ((Arr.rep 4 (0 : UInt64))).l).flatten ++ [.v (.bool false), .v (.int .i64 0)]))) StrC.h rfl (by exact congrArg some (by first | rfl | exact (List.append_nil _).symm | exact List.append_nil _ | exact List.append_assoc _ _ _ | exact (List.append_assoc _ _ _).symm | exact congrArg _ (List.append_nil _).symm | exact congrArg _ (List.append_nil _) | (simp; done) | (simp [cellsS]; done)))) rfl rfl ?_
    refine xstoreP 0 [] ([.v (.int .u8 0)] ++ ((List.map ew ((Arr.rep 4 (0 : UInt64))).l).flatten ++ [.v (.bool false), .v (.int .i64 0)])) [] (by first | rfl | exact (List.append_nil _).symm | exact List.append_nil _ | exact List.append_assoc _ _ _ | exact (List.append_assoc _ _ _).symm | exact congrArg _ (List.append_nil _).symm | exact congrArg _ (List.append_nil _) | (simp; done) | (simp [cellsS]; done)) (by first | rfl | exact seg_lenE (by rfl) | exact len_app rfl (seg_lenE (by rfl)) (by rfl) | exact len_app (seg_lenE (by rfl)) rfl (by rfl) | exact len_app rfl (len_app (seg_lenE (by rfl)) rfl (by rfl)) (by rfl) | (simp only [seg_len, cellsS, List.length_append, List.length_cons, List.length_nil]; done) | (simp only [seg_len, cellsS, List.length_append, List.length_cons, List.length_nil]; rfl)) (by first | rfl | exact seg_lenE (by rfl) | exact len_app rfl (seg_lenE (by rfl)) (by rfl) | exact len_app (seg_lenE (by rfl)) rfl (by rfl) | exact len_app rfl (len_app (seg_lenE (by rfl)) rfl (by rfl)) (by rfl) | (simp only [seg_len, cellsS, List.length_append, List.length_cons, List.length_nil]; done) | (simp only [seg_len, cellsS, List.length_append, List.length_cons, List.length_nil]; rfl)) ShpC.h rfl rfl rfl rfl (by first | rfl | exact seg_lenE (by rfl) | exact len_app rfl (seg_lenE (by rfl)) (by rfl) | exact len_app (seg_lenE (by rfl)) rfl (by rfl) | exact len_app rfl (len_app (seg_lenE (by rfl)) rfl (by rfl)) (by rfl) | (simp only [seg_len, cellsS, List.length_append, List.length_cons, List.length_nil]; done) | (simp only [seg_len, cellsS, List.length_append, List.length_cons, List.length_nil]; rfl)) rfl ?_
    refine xreb 0 ([.v (.int .u8 0)] ++ ((List.map ew ((Arr.rep 4 (0 : UInt64))).l).flatten ++ [.v (.bool false), .v (.int .i64 0)])) rfl (by first | rfl | exact (List.append_nil _).symm | exact List.append_nil _ | exact List.append_assoc _ _ _ | exact (List.append_assoc _ _ _).symm | exact congrArg _ (List.append_nil _).symm | exact congrArg _ (List.append_nil _) | (simp; done) | (simp [cellsS]; done)) ?_
    refine xvalP (pv_assign rfl) rfl rfl ?_
    refine xnil ?_
    refine xthen ?_
    refine xretc ?_
    refine xthen_ret ?_
    replace h := h.symm
    subst h
    exact xretL (rs := [.cell 4 48, .tmp 5]) (ss := [.agg ([.v (.int .u8 (((0 : UInt8).toNat : Int)))] ++ ((List.map ew ((Arr.rep 4 (0 : UInt64))).l).flatten ++ [.v (.bool false), .v (.int .i64 0)])), .v (.int .i64 11)]) hg rfl (by refine RetL.cell 0 ShpC.h rfl rfl (part_midE (pre := []) (mid := ([.v (.int .u8 0)] ++ ((List.map ew ((Arr.rep 4 (0 : UInt64))).l).flatten ++ [.v (.bool false), .v (.int .i64 0)]))) (post := []) (by first | rfl | exact (List.append_nil _).symm | exact List.append_nil _ | exact List.append_assoc _ _ _ | exact (List.append_assoc _ _ _).symm | exact congrArg _ (List.append_nil _).symm | exact congrArg _ (List.append_nil _) | (simp; done) | (simp [cellsS]; done)) (by first | rfl | exact seg_lenE (by rfl) | exact len_app rfl (seg_lenE (by rfl)) (by rfl) | exact len_app (seg_lenE (by rfl)) rfl (by rfl) | exact len_app rfl (len_app (seg_lenE (by rfl)) rfl (by rfl)) (by rfl) | (simp only [seg_len, cellsS, List.length_append, List.length_cons, List.length_nil]; done) | (simp only [seg_len, cellsS, List.length_append, List.length_cons, List.length_nil]; rfl)) (by first | rfl | exact seg_lenE (by rfl) | exact len_app rfl (seg_lenE (by rfl)) (by rfl) | exact len_app (seg_lenE (by rfl)) rfl (by rfl) | exact len_app rfl (len_app (seg_lenE (by rfl)) rfl (by rfl)) (by rfl) | (simp only [seg_len, cellsS, List.length_append, List.length_cons, List.length_nil]; done) | (simp only [seg_len, cellsS, List.length_append, List.length_cons, List.length_nil]; rfl)) (part_all (by first | rfl | exact seg_lenE (by rfl) | exact len_app rfl (seg_lenE (by rfl)) (by rfl) | exact len_app (seg_lenE (by rfl)) rfl (by rfl) | exact len_app rfl (len_app (seg_lenE (by rfl)) rfl (by rfl)) (by rfl) | (simp only [seg_len, cellsS, List.length_append, List.length_cons, List.length_nil]; done) | (simp only [seg_len, cellsS, List.length_append, List.length_cons, List.length_nil]; rfl)))) (len_midE (pre := []) (mid := ([.v (.int .u8 0)] ++ ((List.map ew ((Arr.rep 4 (0 : UInt64))).l).flatten ++ [.v (.bool false), .v (.int .i64 0)]))) (post := []) (by first | rfl | exact (List.append_nil _).symm | exact List.append_nil _ | exact List.append_assoc _ _ _ | exact (List.append_assoc _ _ _).symm | exact congrArg _ (List.append_nil _).symm | exact congrArg _ (List.append_nil _) | (simp; done) | (simp [cellsS]; done)) (by first | rfl | exact seg_lenE (by rfl) | exact len_app rfl (seg_lenE (by rfl)) (by rfl) | exact len_app (seg_lenE (by rfl)) rfl (by rfl) | exact len_app rfl (len_app (seg_lenE (by rfl)) rfl (by rfl)) (by rfl) | (simp only [seg_len, cellsS, List.length_append, List.length_cons, List.length_nil]; done) | (simp only [seg_len, cellsS, List.length_append, List.length_cons, List.length_nil]; rfl)) (by first | rfl | exact seg_lenE (by rfl) | exact len_app rfl (seg_lenE (by rfl)) (by rfl) | exact len_app (seg_lenE (by rfl)) rfl (by rfl) | exact len_app rfl (len_app (seg_lenE (by rfl)) rfl (by rfl)) (by rfl) | (simp only [seg_len, cellsS, List.length_append, List.length_cons, List.length_nil]; done) | (simp only [seg_len, cellsS, List.length_append, List.length_cons, List.length_nil]; rfl))) (by first | with_reducible exact Wk.refl _ | exact Wk.nil_own _ | exact Wk.nil_pl _ | with_reducible exact Wk.tok _ _ _ | exact Wk.tok _ _ _ | exact .eq rfl) ?_; refine RetL.tmp rfl (.refl _) ?_; exact RetL.nil) (SubM.of (.nil _) (.nil _)) ⟨rfl, rfl, rfl⟩
  · replace h := h.2 hp13
    refine xcondF' (decide_eq_false hp13) rfl ?_
    refine xskipc ?_
    refine xthen ?_
    refine xseq ?_
    refine xregion ?_
    refine xvalP (pv_move rfl) rfl rfl ?_
    refine xvalP (pv_move rfl) rfl rfl ?_
    obtain ⟨h14, h⟩ := h
    refine xvalP (pv_addI h14 rfl rfl) rfl rfl ?_
    refine xvalP (pv_move rfl) rfl rfl ?_
    obtain ⟨h15, h⟩ := h
    refine xvalP (pv_addI h15 rfl rfl) rfl rfl ?_
    refine xvalP (pv_move rfl) rfl rfl ?_
    obtain ⟨h16, h⟩ := h
    refine xvalP (pv_addI h16 rfl rfl) rfl rfl ?_
    obtain ⟨h17, h⟩ := h
    refine xvalP (pv_sliceLH h17 UndC.h ShpC.h rfl rfl rfl) rfl rfl ?_
    refine xvalP (pv_assign rfl) rfl rfl ?_
    refine xnil ?_
    refine xthen ?_
    refine xseq ?_
    refine xregion ?_
    refine xvalP (pv_move rfl) rfl rfl ?_
    refine xvalP (pv_move rfl) rfl rfl ?_
    obtain ⟨h18, h⟩ := h
    refine xvalP (pv_addI h18 rfl rfl) rfl rfl ?_
    obtain ⟨h19, h⟩ := h
    refine xvalP (pv_addI h19 rfl rfl) rfl rfl ?_
    refine xvalP (pv_buildC (cs := ([.v (.int .u8 0)] ++ ((List.map ew ((Arr.rep 4 (0 : UInt64))).l).flatten ++ [.v (.bool false), .v (.int .i64 (((atv2 + y9) + 4)))]))) StrC.h rfl (by refine fill_step ([.v (.int .u8 0)] ++ ((List.map ew ((Arr.rep 4 (0 : UInt64))).l).flatten ++ [.v (.bool false)])) [.v (.int .i64 0)] [] (by first | rfl | exact (List.append_nil _).symm | exact List.append_nil _ | exact List.append_assoc _ _ _ | exact (List.append_assoc _ _ _).symm | exact congrArg _ (List.append_nil _).symm | exact congrArg _ (List.append_nil _) | (simp; done) | (simp [cellsS]; done)) (by first | rfl | exact seg_lenE (by rfl) | exact len_app rfl (seg_lenE (by rfl)) (by rfl) | exact len_app (seg_lenE (by rfl)) rfl (by rfl) | exact len_app rfl (len_app (seg_lenE (by rfl)) rfl (by rfl)) (by rfl) | (simp only [seg_len, cellsS, List.length_append, List.length_cons, List.length_nil]; done) | (simp only [seg_len, cellsS, List.length_append, List.length_cons, List.length_nil]; rfl)) (by first | rfl | exact seg_lenE (by rfl) | exact len_app rfl (seg_lenE (by rfl)) (by rfl) | exact len_app (seg_lenE (by rfl)) rfl (by rfl) | exact len_app rfl (len_app (seg_lenE (by rfl)) rfl (by rfl)) (by rfl) | (simp only [seg_len, cellsS, List.length_append, List.length_cons, List.length_nil]; done) | (simp only [seg_len, cellsS, List.length_append, List.length_cons, List.length_nil]; rfl)) (by first | rfl | exact seg_lenE (by rfl) | exact len_app rfl (seg_lenE (by rfl)) (by rfl) | exact len_app (seg_lenE (by rfl)) rfl (by rfl) | exact len_app rfl (len_app (seg_lenE (by rfl)) rfl (by rfl)) (by rfl) | (simp only [seg_len, cellsS, List.length_append, List.length_cons, List.length_nil]; done) | (simp only [seg_len, cellsS, List.length_append, List.length_cons, List.length_nil]; rfl)) rfl rfl ?_; exact congrArg some (by first | rfl | exact (List.append_nil _).symm | exact List.append_nil _ | exact List.append_assoc _ _ _ | exact (List.append_assoc _ _ _).symm | exact congrArg _ (List.append_nil _).symm | exact congrArg _ (List.append_nil _) | (simp; done) | (simp [cellsS]; done)))) rfl rfl ?_
    refine xalloc InfC.h rfl rfl fun b9 => ?_
    refine xreb 0 ([.v (.int .u8 0)] ++ ((List.map ew ((Arr.rep 4 (0 : UInt64))).l).flatten ++ [.v (.bool false), .v (.int .i64 0)])) rfl rfl ?_
    refine xstoreP 0 [] ([.v (.int .u8 0)] ++ ((List.map ew ((Arr.rep 4 (0 : UInt64))).l).flatten ++ [.v (.bool false), .v (.int .i64 0)])) [] (by first | rfl | exact (List.append_nil _).symm | exact List.append_nil _ | exact List.append_assoc _ _ _ | exact (List.append_assoc _ _ _).symm | exact congrArg _ (List.append_nil _).symm | exact congrArg _ (List.append_nil _) | (simp; done) | (simp [cellsS]; done)) (by first | rfl | exact seg_lenE (by rfl) | exact len_app rfl (seg_lenE (by rfl)) (by rfl) | exact len_app (seg_lenE (by rfl)) rfl (by rfl) | exact len_app rfl (len_app (seg_lenE (by rfl)) rfl (by rfl)) (by rfl) | (simp only [seg_len, cellsS, List.length_append, List.length_cons, List.length_nil]; done) | (simp only [seg_len, cellsS, List.length_append, List.length_cons, List.length_nil]; rfl)) (by first | rfl | exact seg_lenE (by rfl) | exact len_app rfl (seg_lenE (by rfl)) (by rfl) | exact len_app (seg_lenE (by rfl)) rfl (by rfl) | exact len_app rfl (len_app (seg_lenE (by rfl)) rfl (by rfl)) (by rfl) | (simp only [seg_len, cellsS, List.length_append, List.length_cons, List.length_nil]; done) | (simp only [seg_len, cellsS, List.length_append, List.length_cons, List.length_nil]; rfl)) ShpC.h rfl rfl rfl rfl (by first | rfl | exact seg_lenE (by rfl) | exact len_app rfl (seg_lenE (by rfl)) (by rfl) | exact len_app (seg_lenE (by rfl)) rfl (by rfl) | exact len_app rfl (len_app (seg_lenE (by rfl)) rfl (by rfl)) (by rfl) | (simp only [seg_len, cellsS, List.length_append, List.length_cons, List.length_nil]; done) | (simp only [seg_len, cellsS, List.length_append, List.length_cons, List.length_nil]; rfl)) rfl ?_
    refine xreb 0 ([.v (.int .u8 0)] ++ ((List.map ew ((Arr.rep 4 (0 : UInt64))).l).flatten ++ [.v (.bool false), .v (.int .i64 (((atv2 + y9) + 4)))])) rfl (by first | rfl | exact (List.append_nil _).symm | exact List.append_nil _ | exact List.append_assoc _ _ _ | exact (List.append_assoc _ _ _).symm | exact congrArg _ (List.append_nil _).symm | exact congrArg _ (List.append_nil _) | (simp; done) | (simp [cellsS]; done)) ?_
    refine xnil ?_
    refine xthen ?_
    refine xseq ?_
    refine xseq ?_
    refine xregion ?_
    refine xvalP (pv_move rfl) rfl rfl ?_
    refine xvalP (pv_bin2 rfl rfl rfl) rfl rfl ?_
    refine xnil ?_
    refine xthen ?_
    by_cases hp28 : (y4.toNat : Int) = 58
    · replace h := h.1 hp28
      refine xcondT' (decide_eq_true hp28) rfl ?_
      refine xseq ?_
      refine xregion ?_
      refine xvalP (pv_move rfl) rfl rfl ?_
      refine xval (pv_str (bs := ((bv1.take (((atv2 + 2) + y9) : Int).toNat).drop ((atv2 + 2) : Int).toNat)) UndC.h UndC.h UndC.h rfl rfl rfl (fun _ h => by injection h with h; exact h.symm)) rfl rfl ?_
      obtain ⟨y31, h30, h⟩ := h
      refine xcallF (Fb := [⟨b9, 48, ([.v (.int .u8 0)] ++ ((List.map ew ((Arr.rep 4 (0 : UInt64))).l).flatten ++ [.v (.bool false), .v (.int .i64 (((atv2 + y9) + 4)))]))⟩, ⟨b4, 48, ([.v (.int .u8 0)] ++ ((List.map ew ((Arr.rep 4 (0 : UInt64))).l).flatten ++ [.v (.bool false), .v (.int .i64 0)]))⟩]) (Ft := [⟨(some (s22, 2)), 5, 1, ([y4, (93 : UInt8)]).length⟩]) (class_Named_con (⟨(((bv1.take (((atv2 + 2) + y9) : Int).toNat).drop ((atv2 + 2) : Int).toNat)).toArray⟩ : ByteArray) _ h30) Try.func31 (by kernel_rfl) rfl (.cons rfl (.refl _) .nil) (by exact (SubM.of (by repeat (first | with_reducible exact SubB.refl _ | exact SubB.nil _ | refine SubB.keep rfl rfl (by first | with_reducible exact WkL.refl _ | ((repeat (first | exact WkL.nil | refine WkL.cons (by first | with_reducible exact Wk.refl _ | exact Wk.nil_own _ | exact Wk.nil_pl _ | with_reducible exact Wk.tok _ _ _ | exact Wk.tok _ _ _ | exact Wk.eq (by first | rfl | (simp []; done) | (simp []; omega))) ?_)); done) | exact WkL.refl _) ?_ | refine SubB.drop ?_)) (by repeat (first | exact SubT.nil _ | refine SubT.add ?_ | (refine SubT.keep ?_ ?_; focus (first | with_reducible rfl | (simp []; done))) | refine SubT.drop ?_)))) rfl rfl ?_
      rintro _ _ _ ⟨rfl, rfl, rfl⟩
      simp only [List.nil_append, List.cons_append]
      refine xvalP (pv_move rfl) rfl rfl ?_
      refine xvalP (pv_extract rfl rfl) rfl rfl ?_
      refine xvalP (pv_extract rfl rfl) rfl rfl ?_
      refine xalloc InfC.h rfl rfl fun b10 => ?_
      refine xreb 0 ((List.map ew ((Arr.rep 4 (0 : UInt64))).l).flatten) rfl rfl ?_
      refine xstoreP 0 [] ((List.map ew ((Arr.rep 4 (0 : UInt64))).l).flatten) [] (by first | rfl | exact (List.append_nil _).symm | exact List.append_nil _ | exact List.append_assoc _ _ _ | exact (List.append_assoc _ _ _).symm | exact congrArg _ (List.append_nil _).symm | exact congrArg _ (List.append_nil _) | (simp; done) | (simp [cellsS]; done)) (by first | rfl | exact seg_lenE (by rfl) | exact len_app rfl (seg_lenE (by rfl)) (by rfl) | exact len_app (seg_lenE (by rfl)) rfl (by rfl) | exact len_app rfl (len_app (seg_lenE (by rfl)) rfl (by rfl)) (by rfl) | (simp only [seg_len, cellsS, List.length_append, List.length_cons, List.length_nil]; done) | (simp only [seg_len, cellsS, List.length_append, List.length_cons, List.length_nil]; rfl)) (by first | rfl | exact seg_lenE (by rfl) | exact len_app rfl (seg_lenE (by rfl)) (by rfl) | exact len_app (seg_lenE (by rfl)) rfl (by rfl) | exact len_app rfl (len_app (seg_lenE (by rfl)) rfl (by rfl)) (by rfl) | (simp only [seg_len, cellsS, List.length_append, List.length_cons, List.length_nil]; done) | (simp only [seg_len, cellsS, List.length_append, List.length_cons, List.length_nil]; rfl)) ShpC.h rfl rfl rfl rfl (by first | rfl | exact seg_lenE (by rfl) | exact len_app rfl (seg_lenE (by rfl)) (by rfl) | exact len_app (seg_lenE (by rfl)) rfl (by rfl) | exact len_app rfl (len_app (seg_lenE (by rfl)) rfl (by rfl)) (by rfl) | (simp only [seg_len, cellsS, List.length_append, List.length_cons, List.length_nil]; done) | (simp only [seg_len, cellsS, List.length_append, List.length_cons, List.length_nil]; rfl)) rfl ?_
      refine xreb 0 ((List.map ew y31.1.l).flatten) rfl (by first | rfl | exact (List.append_nil _).symm | exact List.append_nil _ | exact List.append_assoc _ _ _ | exact (List.append_assoc _ _ _).symm | exact congrArg _ (List.append_nil _).symm | exact congrArg _ (List.append_nil _) | (simp; done) | (simp [cellsS]; done)) ?_
      refine xvalP (pv_assign rfl) rfl rfl ?_
      refine xnil ?_
      refine xthen ?_
      refine xseq ?_
      refine xseq ?_
      refine xregion ?_
      refine xvalP (pv_move rfl) rfl rfl ?_
      refine xvalP (pv_not rfl) rfl rfl ?_
      refine xnil ?_
      refine xthen ?_
      by_cases hp33 : ¬ (y31.2 = true)
      · replace h := h.1 hp33
        refine xcondT' (not_t (b_f hp33)) rfl ?_
        refine xseq ?_
        refine xregion ?_
        refine xvalP (pv_buildC (cs := ([.v (.int .u8 0)] ++ ((List.map ew ((Arr.rep 4 (0 : UInt64))).l).flatten ++ [.v (.bool false), .v (.int .i64 0)]))) StrC.h rfl (by exact congrArg some (by first | rfl | exact (List.append_nil _).symm | exact List.append_nil _ | exact List.append_assoc _ _ _ | exact (List.append_assoc _ _ _).symm | exact congrArg _ (List.append_nil _).symm | exact congrArg _ (List.append_nil _) | (simp; done) | (simp [cellsS]; done)))) rfl rfl ?_
        refine xstoreP 2 [] ([.v (.int .u8 0)] ++ ((List.map ew ((Arr.rep 4 (0 : UInt64))).l).flatten ++ [.v (.bool false), .v (.int .i64 0)])) [] (by first | rfl | exact (List.append_nil _).symm | exact List.append_nil _ | exact List.append_assoc _ _ _ | exact (List.append_assoc _ _ _).symm | exact congrArg _ (List.append_nil _).symm | exact congrArg _ (List.append_nil _) | (simp; done) | (simp [cellsS]; done)) (by first | rfl | exact seg_lenE (by rfl) | exact len_app rfl (seg_lenE (by rfl)) (by rfl) | exact len_app (seg_lenE (by rfl)) rfl (by rfl) | exact len_app rfl (len_app (seg_lenE (by rfl)) rfl (by rfl)) (by rfl) | (simp only [seg_len, cellsS, List.length_append, List.length_cons, List.length_nil]; done) | (simp only [seg_len, cellsS, List.length_append, List.length_cons, List.length_nil]; rfl)) (by first | rfl | exact seg_lenE (by rfl) | exact len_app rfl (seg_lenE (by rfl)) (by rfl) | exact len_app (seg_lenE (by rfl)) rfl (by rfl) | exact len_app rfl (len_app (seg_lenE (by rfl)) rfl (by rfl)) (by rfl) | (simp only [seg_len, cellsS, List.length_append, List.length_cons, List.length_nil]; done) | (simp only [seg_len, cellsS, List.length_append, List.length_cons, List.length_nil]; rfl)) ShpC.h rfl rfl rfl rfl (by first | rfl | exact seg_lenE (by rfl) | exact len_app rfl (seg_lenE (by rfl)) (by rfl) | exact len_app (seg_lenE (by rfl)) rfl (by rfl) | exact len_app rfl (len_app (seg_lenE (by rfl)) rfl (by rfl)) (by rfl) | (simp only [seg_len, cellsS, List.length_append, List.length_cons, List.length_nil]; done) | (simp only [seg_len, cellsS, List.length_append, List.length_cons, List.length_nil]; rfl)) rfl ?_
        refine xreb 2 ([.v (.int .u8 0)] ++ ((List.map ew ((Arr.rep 4 (0 : UInt64))).l).flatten ++ [.v (.bool false), .v (.int .i64 0)])) rfl (by first | rfl | exact (List.append_nil _).symm | exact List.append_nil _ | exact List.append_assoc _ _ _ | exact (List.append_assoc _ _ _).symm | exact congrArg _ (List.append_nil _).symm | exact congrArg _ (List.append_nil _) | (simp; done) | (simp [cellsS]; done)) ?_
        refine xvalP (pv_assign rfl) rfl rfl ?_
        refine xnil ?_
        refine xthen ?_
        refine xretc ?_
        refine xthen_ret ?_
        refine xthen_ret ?_
        replace h := h.symm
        subst h
        exact xretL (rs := [.cell 4 48, .tmp 5]) (ss := [.agg ([.v (.int .u8 (((0 : UInt8).toNat : Int)))] ++ ((List.map ew ((Arr.rep 4 (0 : UInt64))).l).flatten ++ [.v (.bool false), .v (.int .i64 0)])), .v (.int .i64 12)]) hg rfl (by refine RetL.cell 2 ShpC.h rfl rfl (part_midE (pre := []) (mid := ([.v (.int .u8 0)] ++ ((List.map ew ((Arr.rep 4 (0 : UInt64))).l).flatten ++ [.v (.bool false), .v (.int .i64 0)]))) (post := []) (by first | rfl | exact (List.append_nil _).symm | exact List.append_nil _ | exact List.append_assoc _ _ _ | exact (List.append_assoc _ _ _).symm | exact congrArg _ (List.append_nil _).symm | exact congrArg _ (List.append_nil _) | (simp; done) | (simp [cellsS]; done)) (by first | rfl | exact seg_lenE (by rfl) | exact len_app rfl (seg_lenE (by rfl)) (by rfl) | exact len_app (seg_lenE (by rfl)) rfl (by rfl) | exact len_app rfl (len_app (seg_lenE (by rfl)) rfl (by rfl)) (by rfl) | (simp only [seg_len, cellsS, List.length_append, List.length_cons, List.length_nil]; done) | (simp only [seg_len, cellsS, List.length_append, List.length_cons, List.length_nil]; rfl)) (by first | rfl | exact seg_lenE (by rfl) | exact len_app rfl (seg_lenE (by rfl)) (by rfl) | exact len_app (seg_lenE (by rfl)) rfl (by rfl) | exact len_app rfl (len_app (seg_lenE (by rfl)) rfl (by rfl)) (by rfl) | (simp only [seg_len, cellsS, List.length_append, List.length_cons, List.length_nil]; done) | (simp only [seg_len, cellsS, List.length_append, List.length_cons, List.length_nil]; rfl)) (part_all (by first | rfl | exact seg_lenE (by rfl) | exact len_app rfl (seg_lenE (by rfl)) (by rfl) | exact len_app (seg_lenE (by rfl)) rfl (by rfl) | exact len_app rfl (len_app (seg_lenE (by rfl)) rfl (by rfl)) (by rfl) | (simp only [seg_len, cellsS, List.length_append, List.length_cons, List.length_nil]; done) | (simp only [seg_len, cellsS, List.length_append, List.length_cons, List.length_nil]; rfl)))) (len_midE (pre := []) (mid := ([.v (.int .u8 0)] ++ ((List.map ew ((Arr.rep 4 (0 : UInt64))).l).flatten ++ [.v (.bool false), .v (.int .i64 0)]))) (post := []) (by first | rfl | exact (List.append_nil _).symm | exact List.append_nil _ | exact List.append_assoc _ _ _ | exact (List.append_assoc _ _ _).symm | exact congrArg _ (List.append_nil _).symm | exact congrArg _ (List.append_nil _) | (simp; done) | (simp [cellsS]; done)) (by first | rfl | exact seg_lenE (by rfl) | exact len_app rfl (seg_lenE (by rfl)) (by rfl) | exact len_app (seg_lenE (by rfl)) rfl (by rfl) | exact len_app rfl (len_app (seg_lenE (by rfl)) rfl (by rfl)) (by rfl) | (simp only [seg_len, cellsS, List.length_append, List.length_cons, List.length_nil]; done) | (simp only [seg_len, cellsS, List.length_append, List.length_cons, List.length_nil]; rfl)) (by first | rfl | exact seg_lenE (by rfl) | exact len_app rfl (seg_lenE (by rfl)) (by rfl) | exact len_app (seg_lenE (by rfl)) rfl (by rfl) | exact len_app rfl (len_app (seg_lenE (by rfl)) rfl (by rfl)) (by rfl) | (simp only [seg_len, cellsS, List.length_append, List.length_cons, List.length_nil]; done) | (simp only [seg_len, cellsS, List.length_append, List.length_cons, List.length_nil]; rfl))) (by first | with_reducible exact Wk.refl _ | exact Wk.nil_own _ | exact Wk.nil_pl _ | with_reducible exact Wk.tok _ _ _ | exact Wk.tok _ _ _ | exact .eq rfl) ?_; refine RetL.tmp rfl (.refl _) ?_; exact RetL.nil) (SubM.of (.nil _) (.nil _)) ⟨rfl, rfl, rfl⟩
      · replace h := h.2 hp33
        refine xcondF' (not_f (Decidable.of_not_not hp33)) rfl ?_
        refine xskipc ?_
        refine xthen ?_
        refine xseq ?_
        refine xregion ?_
        refine xval (qv_loadP 0 [] ((List.map ew y31.1.l).flatten) [] (by first | rfl | exact (List.append_nil _).symm | exact List.append_nil _ | exact List.append_assoc _ _ _ | exact (List.append_assoc _ _ _).symm | exact congrArg _ (List.append_nil _).symm | exact congrArg _ (List.append_nil _) | (simp; done) | (simp [cellsS]; done)) (by first | rfl | exact seg_lenE (by rfl) | exact len_app rfl (seg_lenE (by rfl)) (by rfl) | exact len_app (seg_lenE (by rfl)) rfl (by rfl) | exact len_app rfl (len_app (seg_lenE (by rfl)) rfl (by rfl)) (by rfl) | (simp only [seg_len, cellsS, List.length_append, List.length_cons, List.length_nil]; done) | (simp only [seg_len, cellsS, List.length_append, List.length_cons, List.length_nil]; rfl)) (by first | rfl | exact seg_lenE (by rfl) | exact len_app rfl (seg_lenE (by rfl)) (by rfl) | exact len_app (seg_lenE (by rfl)) rfl (by rfl) | exact len_app rfl (len_app (seg_lenE (by rfl)) rfl (by rfl)) (by rfl) | (simp only [seg_len, cellsS, List.length_append, List.length_cons, List.length_nil]; done) | (simp only [seg_len, cellsS, List.length_append, List.length_cons, List.length_nil]; rfl)) (part_all (seg_lenE (by rfl))) ShpC.h rfl rfl) rfl rfl ?_
        refine xvalP (qv_fieldAddrB FldC.h rfl) rfl rfl ?_
        refine xstoreP 1 [.v (.int .u8 0)] ((List.map ew ((Arr.rep 4 (0 : UInt64))).l).flatten) [.v (.bool false), .v (.int .i64 (((atv2 + y9) + 4)))] (by first | rfl | exact (List.append_nil _).symm | exact List.append_nil _ | exact List.append_assoc _ _ _ | exact (List.append_assoc _ _ _).symm | exact congrArg _ (List.append_nil _).symm | exact congrArg _ (List.append_nil _) | (simp; done) | (simp [cellsS]; done)) (by first | rfl | exact seg_lenE (by rfl) | exact len_app rfl (seg_lenE (by rfl)) (by rfl) | exact len_app (seg_lenE (by rfl)) rfl (by rfl) | exact len_app rfl (len_app (seg_lenE (by rfl)) rfl (by rfl)) (by rfl) | (simp only [seg_len, cellsS, List.length_append, List.length_cons, List.length_nil]; done) | (simp only [seg_len, cellsS, List.length_append, List.length_cons, List.length_nil]; rfl)) (by first | rfl | exact seg_lenE (by rfl) | exact len_app rfl (seg_lenE (by rfl)) (by rfl) | exact len_app (seg_lenE (by rfl)) rfl (by rfl) | exact len_app rfl (len_app (seg_lenE (by rfl)) rfl (by rfl)) (by rfl) | (simp only [seg_len, cellsS, List.length_append, List.length_cons, List.length_nil]; done) | (simp only [seg_len, cellsS, List.length_append, List.length_cons, List.length_nil]; rfl)) ShpC.h rfl rfl rfl rfl (by first | rfl | exact seg_lenE (by rfl) | exact len_app rfl (seg_lenE (by rfl)) (by rfl) | exact len_app (seg_lenE (by rfl)) rfl (by rfl) | exact len_app rfl (len_app (seg_lenE (by rfl)) rfl (by rfl)) (by rfl) | (simp only [seg_len, cellsS, List.length_append, List.length_cons, List.length_nil]; done) | (simp only [seg_len, cellsS, List.length_append, List.length_cons, List.length_nil]; rfl)) rfl ?_
        refine xreb 1 ([.v (.int .u8 0)] ++ ((List.map ew y31.1.l).flatten ++ [.v (.bool false), .v (.int .i64 (((atv2 + y9) + 4)))])) rfl (by first | rfl | exact (List.append_nil _).symm | exact List.append_nil _ | exact List.append_assoc _ _ _ | exact (List.append_assoc _ _ _).symm | exact congrArg _ (List.append_nil _).symm | exact congrArg _ (List.append_nil _) | (simp; done) | (simp [cellsS]; done)) ?_
        refine xvalP (qv_fieldAddrB FldC.h rfl) rfl rfl ?_
        refine xstoreP 1 ([.v (.int .u8 0)] ++ (List.map ew y31.1.l).flatten) [.v (.bool false)] [.v (.int .i64 (((atv2 + y9) + 4)))] (by first | rfl | exact (List.append_nil _).symm | exact List.append_nil _ | exact List.append_assoc _ _ _ | exact (List.append_assoc _ _ _).symm | exact congrArg _ (List.append_nil _).symm | exact congrArg _ (List.append_nil _) | (simp; done) | (simp [cellsS]; done)) (by first | rfl | exact seg_lenE (by rfl) | exact len_app rfl (seg_lenE (by rfl)) (by rfl) | exact len_app (seg_lenE (by rfl)) rfl (by rfl) | exact len_app rfl (len_app (seg_lenE (by rfl)) rfl (by rfl)) (by rfl) | (simp only [seg_len, cellsS, List.length_append, List.length_cons, List.length_nil]; done) | (simp only [seg_len, cellsS, List.length_append, List.length_cons, List.length_nil]; rfl)) (by first | rfl | exact seg_lenE (by rfl) | exact len_app rfl (seg_lenE (by rfl)) (by rfl) | exact len_app (seg_lenE (by rfl)) rfl (by rfl) | exact len_app rfl (len_app (seg_lenE (by rfl)) rfl (by rfl)) (by rfl) | (simp only [seg_len, cellsS, List.length_append, List.length_cons, List.length_nil]; done) | (simp only [seg_len, cellsS, List.length_append, List.length_cons, List.length_nil]; rfl)) ShpC.h rfl rfl rfl rfl (by first | rfl | exact seg_lenE (by rfl) | exact len_app rfl (seg_lenE (by rfl)) (by rfl) | exact len_app (seg_lenE (by rfl)) rfl (by rfl) | exact len_app rfl (len_app (seg_lenE (by rfl)) rfl (by rfl)) (by rfl) | (simp only [seg_len, cellsS, List.length_append, List.length_cons, List.length_nil]; done) | (simp only [seg_len, cellsS, List.length_append, List.length_cons, List.length_nil]; rfl)) rfl ?_
        refine xreb 1 ([.v (.int .u8 0)] ++ ((List.map ew y31.1.l).flatten ++ [.v (.bool true), .v (.int .i64 (((atv2 + y9) + 4)))])) rfl (by first | rfl | exact (List.append_nil _).symm | exact List.append_nil _ | exact List.append_assoc _ _ _ | exact (List.append_assoc _ _ _).symm | exact congrArg _ (List.append_nil _).symm | exact congrArg _ (List.append_nil _) | (simp; done) | (simp [cellsS]; done)) ?_
        refine xnil ?_
        refine xthen ?_
        refine xseq ?_
        refine xregion ?_
        refine xval (qv_loadP 1 [] ([.v (.int .u8 0)] ++ ((List.map ew y31.1.l).flatten ++ [.v (.bool true), .v (.int .i64 (((atv2 + y9) + 4)))])) [] (by first | rfl | exact (List.append_nil _).symm | exact List.append_nil _ | exact List.append_assoc _ _ _ | exact (List.append_assoc _ _ _).symm | exact congrArg _ (List.append_nil _).symm | exact congrArg _ (List.append_nil _) | (simp; done) | (simp [cellsS]; done)) (by first | rfl | exact seg_lenE (by rfl) | exact len_app rfl (seg_lenE (by rfl)) (by rfl) | exact len_app (seg_lenE (by rfl)) rfl (by rfl) | exact len_app rfl (len_app (seg_lenE (by rfl)) rfl (by rfl)) (by rfl) | (simp only [seg_len, cellsS, List.length_append, List.length_cons, List.length_nil]; done) | (simp only [seg_len, cellsS, List.length_append, List.length_cons, List.length_nil]; rfl)) (by first | rfl | exact seg_lenE (by rfl) | exact len_app rfl (seg_lenE (by rfl)) (by rfl) | exact len_app (seg_lenE (by rfl)) rfl (by rfl) | exact len_app rfl (len_app (seg_lenE (by rfl)) rfl (by rfl)) (by rfl) | (simp only [seg_len, cellsS, List.length_append, List.length_cons, List.length_nil]; done) | (simp only [seg_len, cellsS, List.length_append, List.length_cons, List.length_nil]; rfl)) (part_all (by first | rfl | exact seg_lenE (by rfl) | exact len_app rfl (seg_lenE (by rfl)) (by rfl) | exact len_app (seg_lenE (by rfl)) rfl (by rfl) | exact len_app rfl (len_app (seg_lenE (by rfl)) rfl (by rfl)) (by rfl) | (simp only [seg_len, cellsS, List.length_append, List.length_cons, List.length_nil]; done) | (simp only [seg_len, cellsS, List.length_append, List.length_cons, List.length_nil]; rfl))) ShpC.h rfl rfl) rfl rfl ?_
        refine xstoreP 2 [] ([.v (.int .u8 0)] ++ ((List.map ew ((Arr.rep 4 (0 : UInt64))).l).flatten ++ [.v (.bool false), .v (.int .i64 0)])) [] (by first | rfl | exact (List.append_nil _).symm | exact List.append_nil _ | exact List.append_assoc _ _ _ | exact (List.append_assoc _ _ _).symm | exact congrArg _ (List.append_nil _).symm | exact congrArg _ (List.append_nil _) | (simp; done) | (simp [cellsS]; done)) (by first | rfl | exact seg_lenE (by rfl) | exact len_app rfl (seg_lenE (by rfl)) (by rfl) | exact len_app (seg_lenE (by rfl)) rfl (by rfl) | exact len_app rfl (len_app (seg_lenE (by rfl)) rfl (by rfl)) (by rfl) | (simp only [seg_len, cellsS, List.length_append, List.length_cons, List.length_nil]; done) | (simp only [seg_len, cellsS, List.length_append, List.length_cons, List.length_nil]; rfl)) (by first | rfl | exact seg_lenE (by rfl) | exact len_app rfl (seg_lenE (by rfl)) (by rfl) | exact len_app (seg_lenE (by rfl)) rfl (by rfl) | exact len_app rfl (len_app (seg_lenE (by rfl)) rfl (by rfl)) (by rfl) | (simp only [seg_len, cellsS, List.length_append, List.length_cons, List.length_nil]; done) | (simp only [seg_len, cellsS, List.length_append, List.length_cons, List.length_nil]; rfl)) ShpC.h rfl rfl rfl rfl (by first | rfl | exact seg_lenE (by rfl) | exact len_app rfl (seg_lenE (by rfl)) (by rfl) | exact len_app (seg_lenE (by rfl)) rfl (by rfl) | exact len_app rfl (len_app (seg_lenE (by rfl)) rfl (by rfl)) (by rfl) | (simp only [seg_len, cellsS, List.length_append, List.length_cons, List.length_nil]; done) | (simp only [seg_len, cellsS, List.length_append, List.length_cons, List.length_nil]; rfl)) rfl ?_
        refine xreb 2 ([.v (.int .u8 0)] ++ ((List.map ew y31.1.l).flatten ++ [.v (.bool true), .v (.int .i64 (((atv2 + y9) + 4)))])) rfl (by first | rfl | exact (List.append_nil _).symm | exact List.append_nil _ | exact List.append_assoc _ _ _ | exact (List.append_assoc _ _ _).symm | exact congrArg _ (List.append_nil _).symm | exact congrArg _ (List.append_nil _) | (simp; done) | (simp [cellsS]; done)) ?_
        refine xvalP (pv_assign rfl) rfl rfl ?_
        refine xnil ?_
        refine xthen ?_
        refine xretc ?_
        refine xthen_ret ?_
        replace h := h.symm
        subst h
        exact xretL (rs := [.cell 4 48, .tmp 5]) (ss := [.agg ([.v (.int .u8 (((0 : UInt8).toNat : Int)))] ++ ((List.map ew y31.1.l).flatten ++ [.v (.bool true), .v (.int .i64 (((atv2 + y9) + 4)))])), .v (.int .i64 0)]) hg rfl (by refine RetL.cell 2 ShpC.h rfl rfl (part_midE (pre := []) (mid := ([.v (.int .u8 0)] ++ ((List.map ew y31.1.l).flatten ++ [.v (.bool true), .v (.int .i64 (((atv2 + y9) + 4)))]))) (post := []) (by first | rfl | exact (List.append_nil _).symm | exact List.append_nil _ | exact List.append_assoc _ _ _ | exact (List.append_assoc _ _ _).symm | exact congrArg _ (List.append_nil _).symm | exact congrArg _ (List.append_nil _) | (simp; done) | (simp [cellsS]; done)) (by first | rfl | exact seg_lenE (by rfl) | exact len_app rfl (seg_lenE (by rfl)) (by rfl) | exact len_app (seg_lenE (by rfl)) rfl (by rfl) | exact len_app rfl (len_app (seg_lenE (by rfl)) rfl (by rfl)) (by rfl) | (simp only [seg_len, cellsS, List.length_append, List.length_cons, List.length_nil]; done) | (simp only [seg_len, cellsS, List.length_append, List.length_cons, List.length_nil]; rfl)) (by first | rfl | exact seg_lenE (by rfl) | exact len_app rfl (seg_lenE (by rfl)) (by rfl) | exact len_app (seg_lenE (by rfl)) rfl (by rfl) | exact len_app rfl (len_app (seg_lenE (by rfl)) rfl (by rfl)) (by rfl) | (simp only [seg_len, cellsS, List.length_append, List.length_cons, List.length_nil]; done) | (simp only [seg_len, cellsS, List.length_append, List.length_cons, List.length_nil]; rfl)) (part_all (by first | rfl | exact seg_lenE (by rfl) | exact len_app rfl (seg_lenE (by rfl)) (by rfl) | exact len_app (seg_lenE (by rfl)) rfl (by rfl) | exact len_app rfl (len_app (seg_lenE (by rfl)) rfl (by rfl)) (by rfl) | (simp only [seg_len, cellsS, List.length_append, List.length_cons, List.length_nil]; done) | (simp only [seg_len, cellsS, List.length_append, List.length_cons, List.length_nil]; rfl)))) (len_midE (pre := []) (mid := ([.v (.int .u8 0)] ++ ((List.map ew y31.1.l).flatten ++ [.v (.bool true), .v (.int .i64 (((atv2 + y9) + 4)))]))) (post := []) (by first | rfl | exact (List.append_nil _).symm | exact List.append_nil _ | exact List.append_assoc _ _ _ | exact (List.append_assoc _ _ _).symm | exact congrArg _ (List.append_nil _).symm | exact congrArg _ (List.append_nil _) | (simp; done) | (simp [cellsS]; done)) (by first | rfl | exact seg_lenE (by rfl) | exact len_app rfl (seg_lenE (by rfl)) (by rfl) | exact len_app (seg_lenE (by rfl)) rfl (by rfl) | exact len_app rfl (len_app (seg_lenE (by rfl)) rfl (by rfl)) (by rfl) | (simp only [seg_len, cellsS, List.length_append, List.length_cons, List.length_nil]; done) | (simp only [seg_len, cellsS, List.length_append, List.length_cons, List.length_nil]; rfl)) (by first | rfl | exact seg_lenE (by rfl) | exact len_app rfl (seg_lenE (by rfl)) (by rfl) | exact len_app (seg_lenE (by rfl)) rfl (by rfl) | exact len_app rfl (len_app (seg_lenE (by rfl)) rfl (by rfl)) (by rfl) | (simp only [seg_len, cellsS, List.length_append, List.length_cons, List.length_nil]; done) | (simp only [seg_len, cellsS, List.length_append, List.length_cons, List.length_nil]; rfl))) (by first | with_reducible exact Wk.refl _ | exact Wk.nil_own _ | exact Wk.nil_pl _ | with_reducible exact Wk.tok _ _ _ | exact Wk.tok _ _ _ | exact .eq rfl) ?_; refine RetL.tmp rfl (.refl _) ?_; exact RetL.nil) (SubM.of (.nil _) (.nil _)) ⟨rfl, rfl, rfl⟩
    · replace h := h.2 hp28
      refine xcondF' (decide_eq_false hp28) rfl ?_
      refine xskipc ?_
      refine xthen ?_
      refine xseq ?_
      refine xseq ?_
      refine xregion ?_
      refine xvalP (pv_move rfl) rfl rfl ?_
      refine xvalP (pv_lenM UndC.h rfl) rfl rfl ?_
      refine xvalP (pv_bin2 rfl rfl rfl) rfl rfl ?_
      refine xnil ?_
      refine xthen ?_
      by_cases hp39 : ¬ (((((bv1.take (((atv2 + 2) + y9) : Int).toNat).drop ((atv2 + 2) : Int).toNat)).length : Int) = 1)
      · replace h := h.1 hp39
        refine xcondT' (not_t (decide_eq_false hp39)) rfl ?_
        refine xseq ?_
        refine xregion ?_
        refine xvalP (pv_buildC (cs := ([.v (.int .u8 0)] ++ ((List.map ew ((Arr.rep 4 (0 : UInt64))).l).flatten ++ [.v (.bool false), .v (.int .i64 0)]))) StrC.h rfl (by exact congrArg some (by first | rfl | exact (List.append_nil _).symm | exact List.append_nil _ | exact List.append_assoc _ _ _ | exact (List.append_assoc _ _ _).symm | exact congrArg _ (List.append_nil _).symm | exact congrArg _ (List.append_nil _) | (simp; done) | (simp [cellsS]; done)))) rfl rfl ?_
        refine xstoreP 1 [] ([.v (.int .u8 0)] ++ ((List.map ew ((Arr.rep 4 (0 : UInt64))).l).flatten ++ [.v (.bool false), .v (.int .i64 0)])) [] (by first | rfl | exact (List.append_nil _).symm | exact List.append_nil _ | exact List.append_assoc _ _ _ | exact (List.append_assoc _ _ _).symm | exact congrArg _ (List.append_nil _).symm | exact congrArg _ (List.append_nil _) | (simp; done) | (simp [cellsS]; done)) (by first | rfl | exact seg_lenE (by rfl) | exact len_app rfl (seg_lenE (by rfl)) (by rfl) | exact len_app (seg_lenE (by rfl)) rfl (by rfl) | exact len_app rfl (len_app (seg_lenE (by rfl)) rfl (by rfl)) (by rfl) | (simp only [seg_len, cellsS, List.length_append, List.length_cons, List.length_nil]; done) | (simp only [seg_len, cellsS, List.length_append, List.length_cons, List.length_nil]; rfl)) (by first | rfl | exact seg_lenE (by rfl) | exact len_app rfl (seg_lenE (by rfl)) (by rfl) | exact len_app (seg_lenE (by rfl)) rfl (by rfl) | exact len_app rfl (len_app (seg_lenE (by rfl)) rfl (by rfl)) (by rfl) | (simp only [seg_len, cellsS, List.length_append, List.length_cons, List.length_nil]; done) | (simp only [seg_len, cellsS, List.length_append, List.length_cons, List.length_nil]; rfl)) ShpC.h rfl rfl rfl rfl (by first | rfl | exact seg_lenE (by rfl) | exact len_app rfl (seg_lenE (by rfl)) (by rfl) | exact len_app (seg_lenE (by rfl)) rfl (by rfl) | exact len_app rfl (len_app (seg_lenE (by rfl)) rfl (by rfl)) (by rfl) | (simp only [seg_len, cellsS, List.length_append, List.length_cons, List.length_nil]; done) | (simp only [seg_len, cellsS, List.length_append, List.length_cons, List.length_nil]; rfl)) rfl ?_
        refine xreb 1 ([.v (.int .u8 0)] ++ ((List.map ew ((Arr.rep 4 (0 : UInt64))).l).flatten ++ [.v (.bool false), .v (.int .i64 0)])) rfl (by first | rfl | exact (List.append_nil _).symm | exact List.append_nil _ | exact List.append_assoc _ _ _ | exact (List.append_assoc _ _ _).symm | exact congrArg _ (List.append_nil _).symm | exact congrArg _ (List.append_nil _) | (simp; done) | (simp [cellsS]; done)) ?_
        refine xvalP (pv_assign rfl) rfl rfl ?_
        refine xnil ?_
        refine xthen ?_
        refine xretc ?_
        refine xthen_ret ?_
        replace h := h.symm
        subst h
        exact xretL (rs := [.cell 4 48, .tmp 5]) (ss := [.agg ([.v (.int .u8 (((0 : UInt8).toNat : Int)))] ++ ((List.map ew ((Arr.rep 4 (0 : UInt64))).l).flatten ++ [.v (.bool false), .v (.int .i64 0)])), .v (.int .i64 12)]) hg rfl (by refine RetL.cell 1 ShpC.h rfl rfl (part_midE (pre := []) (mid := ([.v (.int .u8 0)] ++ ((List.map ew ((Arr.rep 4 (0 : UInt64))).l).flatten ++ [.v (.bool false), .v (.int .i64 0)]))) (post := []) (by first | rfl | exact (List.append_nil _).symm | exact List.append_nil _ | exact List.append_assoc _ _ _ | exact (List.append_assoc _ _ _).symm | exact congrArg _ (List.append_nil _).symm | exact congrArg _ (List.append_nil _) | (simp; done) | (simp [cellsS]; done)) (by first | rfl | exact seg_lenE (by rfl) | exact len_app rfl (seg_lenE (by rfl)) (by rfl) | exact len_app (seg_lenE (by rfl)) rfl (by rfl) | exact len_app rfl (len_app (seg_lenE (by rfl)) rfl (by rfl)) (by rfl) | (simp only [seg_len, cellsS, List.length_append, List.length_cons, List.length_nil]; done) | (simp only [seg_len, cellsS, List.length_append, List.length_cons, List.length_nil]; rfl)) (by first | rfl | exact seg_lenE (by rfl) | exact len_app rfl (seg_lenE (by rfl)) (by rfl) | exact len_app (seg_lenE (by rfl)) rfl (by rfl) | exact len_app rfl (len_app (seg_lenE (by rfl)) rfl (by rfl)) (by rfl) | (simp only [seg_len, cellsS, List.length_append, List.length_cons, List.length_nil]; done) | (simp only [seg_len, cellsS, List.length_append, List.length_cons, List.length_nil]; rfl)) (part_all (by first | rfl | exact seg_lenE (by rfl) | exact len_app rfl (seg_lenE (by rfl)) (by rfl) | exact len_app (seg_lenE (by rfl)) rfl (by rfl) | exact len_app rfl (len_app (seg_lenE (by rfl)) rfl (by rfl)) (by rfl) | (simp only [seg_len, cellsS, List.length_append, List.length_cons, List.length_nil]; done) | (simp only [seg_len, cellsS, List.length_append, List.length_cons, List.length_nil]; rfl)))) (len_midE (pre := []) (mid := ([.v (.int .u8 0)] ++ ((List.map ew ((Arr.rep 4 (0 : UInt64))).l).flatten ++ [.v (.bool false), .v (.int .i64 0)]))) (post := []) (by first | rfl | exact (List.append_nil _).symm | exact List.append_nil _ | exact List.append_assoc _ _ _ | exact (List.append_assoc _ _ _).symm | exact congrArg _ (List.append_nil _).symm | exact congrArg _ (List.append_nil _) | (simp; done) | (simp [cellsS]; done)) (by first | rfl | exact seg_lenE (by rfl) | exact len_app rfl (seg_lenE (by rfl)) (by rfl) | exact len_app (seg_lenE (by rfl)) rfl (by rfl) | exact len_app rfl (len_app (seg_lenE (by rfl)) rfl (by rfl)) (by rfl) | (simp only [seg_len, cellsS, List.length_append, List.length_cons, List.length_nil]; done) | (simp only [seg_len, cellsS, List.length_append, List.length_cons, List.length_nil]; rfl)) (by first | rfl | exact seg_lenE (by rfl) | exact len_app rfl (seg_lenE (by rfl)) (by rfl) | exact len_app (seg_lenE (by rfl)) rfl (by rfl) | exact len_app rfl (len_app (seg_lenE (by rfl)) rfl (by rfl)) (by rfl) | (simp only [seg_len, cellsS, List.length_append, List.length_cons, List.length_nil]; done) | (simp only [seg_len, cellsS, List.length_append, List.length_cons, List.length_nil]; rfl))) (by first | with_reducible exact Wk.refl _ | exact Wk.nil_own _ | exact Wk.nil_pl _ | with_reducible exact Wk.tok _ _ _ | exact Wk.tok _ _ _ | exact .eq rfl) ?_; refine RetL.tmp rfl (.refl _) ?_; exact RetL.nil) (SubM.of (.nil _) (.nil _)) ⟨rfl, rfl, rfl⟩
      · replace h := h.2 hp39
        refine xcondF' (not_f (decide_eq_true (Decidable.of_not_not hp39))) rfl ?_
        refine xskipc ?_
        refine xthen ?_
        refine xseq ?_
        refine xregion ?_
        refine xvalP (pv_move rfl) rfl rfl ?_
        obtain ⟨h41a, h⟩ := h
        obtain ⟨y40, h41b, h⟩ := h
        refine xvalP (pv_indexAddrM h41a h41b UndC.h ShpC.h rfl rfl) rfl rfl ?_
        refine xval (qv_load ShpC.h rfl rfl rfl) rfl rfl ?_
        refine xvalP (qv_fieldAddrB FldC.h rfl) rfl rfl ?_
        refine xstore 0 ShpC.h rfl rfl rfl rfl rfl rfl rfl ?_
        refine xnil ?_
        refine xthen ?_
        refine xseq ?_
        refine xregion ?_
        refine xval (qv_loadP 0 [] ([.v (.int .u8 ((y40.toNat : Int)))] ++ ((List.map ew ((Arr.rep 4 (0 : UInt64))).l).flatten ++ [.v (.bool false), .v (.int .i64 (((atv2 + y9) + 4)))])) [] (by first | rfl | exact (List.append_nil _).symm | exact List.append_nil _ | exact List.append_assoc _ _ _ | exact (List.append_assoc _ _ _).symm | exact congrArg _ (List.append_nil _).symm | exact congrArg _ (List.append_nil _) | (simp; done) | (simp [cellsS]; done)) (by first | rfl | exact seg_lenE (by rfl) | exact len_app rfl (seg_lenE (by rfl)) (by rfl) | exact len_app (seg_lenE (by rfl)) rfl (by rfl) | exact len_app rfl (len_app (seg_lenE (by rfl)) rfl (by rfl)) (by rfl) | (simp only [seg_len, cellsS, List.length_append, List.length_cons, List.length_nil]; done) | (simp only [seg_len, cellsS, List.length_append, List.length_cons, List.length_nil]; rfl)) (by first | rfl | exact seg_lenE (by rfl) | exact len_app rfl (seg_lenE (by rfl)) (by rfl) | exact len_app (seg_lenE (by rfl)) rfl (by rfl) | exact len_app rfl (len_app (seg_lenE (by rfl)) rfl (by rfl)) (by rfl) | (simp only [seg_len, cellsS, List.length_append, List.length_cons, List.length_nil]; done) | (simp only [seg_len, cellsS, List.length_append, List.length_cons, List.length_nil]; rfl)) (part_all (by first | rfl | exact seg_lenE (by rfl) | exact len_app rfl (seg_lenE (by rfl)) (by rfl) | exact len_app (seg_lenE (by rfl)) rfl (by rfl) | exact len_app rfl (len_app (seg_lenE (by rfl)) rfl (by rfl)) (by rfl) | (simp only [seg_len, cellsS, List.length_append, List.length_cons, List.length_nil]; done) | (simp only [seg_len, cellsS, List.length_append, List.length_cons, List.length_nil]; rfl))) ShpC.h rfl rfl) rfl rfl ?_
        refine xstoreP 1 [] ([.v (.int .u8 0)] ++ ((List.map ew ((Arr.rep 4 (0 : UInt64))).l).flatten ++ [.v (.bool false), .v (.int .i64 0)])) [] (by first | rfl | exact (List.append_nil _).symm | exact List.append_nil _ | exact List.append_assoc _ _ _ | exact (List.append_assoc _ _ _).symm | exact congrArg _ (List.append_nil _).symm | exact congrArg _ (List.append_nil _) | (simp; done) | (simp [cellsS]; done)) (by first | rfl | exact seg_lenE (by rfl) | exact len_app rfl (seg_lenE (by rfl)) (by rfl) | exact len_app (seg_lenE (by rfl)) rfl (by rfl) | exact len_app rfl (len_app (seg_lenE (by rfl)) rfl (by rfl)) (by rfl) | (simp only [seg_len, cellsS, List.length_append, List.length_cons, List.length_nil]; done) | (simp only [seg_len, cellsS, List.length_append, List.length_cons, List.length_nil]; rfl)) (by first | rfl | exact seg_lenE (by rfl) | exact len_app rfl (seg_lenE (by rfl)) (by rfl) | exact len_app (seg_lenE (by rfl)) rfl (by rfl) | exact len_app rfl (len_app (seg_lenE (by rfl)) rfl (by rfl)) (by rfl) | (simp only [seg_len, cellsS, List.length_append, List.length_cons, List.length_nil]; done) | (simp only [seg_len, cellsS, List.length_append, List.length_cons, List.length_nil]; rfl)) ShpC.h rfl rfl rfl rfl (by first | rfl | exact seg_lenE (by rfl) | exact len_app rfl (seg_lenE (by rfl)) (by rfl) | exact len_app (seg_lenE (by rfl)) rfl (by rfl) | exact len_app rfl (len_app (seg_lenE (by rfl)) rfl (by rfl)) (by rfl) | (simp only [seg_len, cellsS, List.length_append, List.length_cons, List.length_nil]; done) | (simp only [seg_len, cellsS, List.length_append, List.length_cons, List.length_nil]; rfl)) rfl ?_
        refine xreb 1 ([.v (.int .u8 ((y40.toNat : Int)))] ++ ((List.map ew ((Arr.rep 4 (0 : UInt64))).l).flatten ++ [.v (.bool false), .v (.int .i64 (((atv2 + y9) + 4)))])) rfl (by first | rfl | exact (List.append_nil _).symm | exact List.append_nil _ | exact List.append_assoc _ _ _ | exact (List.append_assoc _ _ _).symm | exact congrArg _ (List.append_nil _).symm | exact congrArg _ (List.append_nil _) | (simp; done) | (simp [cellsS]; done)) ?_
        refine xvalP (pv_assign rfl) rfl rfl ?_
        refine xnil ?_
        refine xthen ?_
        refine xretc ?_
        replace h := h.symm
        subst h
        exact xretL (rs := [.cell 4 48, .tmp 5]) (ss := [.agg ([.v (.int .u8 ((y40.toNat : Int)))] ++ ((List.map ew ((Arr.rep 4 (0 : UInt64))).l).flatten ++ [.v (.bool false), .v (.int .i64 (((atv2 + y9) + 4)))])), .v (.int .i64 0)]) hg rfl (by refine RetL.cell 1 ShpC.h rfl rfl (part_midE (pre := []) (mid := ([.v (.int .u8 ((y40.toNat : Int)))] ++ ((List.map ew ((Arr.rep 4 (0 : UInt64))).l).flatten ++ [.v (.bool false), .v (.int .i64 (((atv2 + y9) + 4)))]))) (post := []) (by first | rfl | exact (List.append_nil _).symm | exact List.append_nil _ | exact List.append_assoc _ _ _ | exact (List.append_assoc _ _ _).symm | exact congrArg _ (List.append_nil _).symm | exact congrArg _ (List.append_nil _) | (simp; done) | (simp [cellsS]; done)) (by first | rfl | exact seg_lenE (by rfl) | exact len_app rfl (seg_lenE (by rfl)) (by rfl) | exact len_app (seg_lenE (by rfl)) rfl (by rfl) | exact len_app rfl (len_app (seg_lenE (by rfl)) rfl (by rfl)) (by rfl) | (simp only [seg_len, cellsS, List.length_append, List.length_cons, List.length_nil]; done) | (simp only [seg_len, cellsS, List.length_append, List.length_cons, List.length_nil]; rfl)) (by first | rfl | exact seg_lenE (by rfl) | exact len_app rfl (seg_lenE (by rfl)) (by rfl) | exact len_app (seg_lenE (by rfl)) rfl (by rfl) | exact len_app rfl (len_app (seg_lenE (by rfl)) rfl (by rfl)) (by rfl) | (simp only [seg_len, cellsS, List.length_append, List.length_cons, List.length_nil]; done) | (simp only [seg_len, cellsS, List.length_append, List.length_cons, List.length_nil]; rfl)) (part_all (by first | rfl | exact seg_lenE (by rfl) | exact len_app rfl (seg_lenE (by rfl)) (by rfl) | exact len_app (seg_lenE (by rfl)) rfl (by rfl) | exact len_app rfl (len_app (seg_lenE (by rfl)) rfl (by rfl)) (by rfl) | (simp only [seg_len, cellsS, List.length_append, List.length_cons, List.length_nil]; done) | (simp only [seg_len, cellsS, List.length_append, List.length_cons, List.length_nil]; rfl)))) (len_midE (pre := []) (mid := ([.v (.int .u8 ((y40.toNat : Int)))] ++ ((List.map ew ((Arr.rep 4 (0 : UInt64))).l).flatten ++ [.v (.bool false), .v (.int .i64 (((atv2 + y9) + 4)))]))) (post := []) (by first | rfl | exact (List.append_nil _).symm | exact List.append_nil _ | exact List.append_assoc _ _ _ | exact (List.append_assoc _ _ _).symm | exact congrArg _ (List.append_nil _).symm | exact congrArg _ (List.append_nil _) | (simp; done) | (simp [cellsS]; done)) (by first | rfl | exact seg_lenE (by rfl) | exact len_app rfl (seg_lenE (by rfl)) (by rfl) | exact len_app (seg_lenE (by rfl)) rfl (by rfl) | exact len_app rfl (len_app (seg_lenE (by rfl)) rfl (by rfl)) (by rfl) | (simp only [seg_len, cellsS, List.length_append, List.length_cons, List.length_nil]; done) | (simp only [seg_len, cellsS, List.length_append, List.length_cons, List.length_nil]; rfl)) (by first | rfl | exact seg_lenE (by rfl) | exact len_app rfl (seg_lenE (by rfl)) (by rfl) | exact len_app (seg_lenE (by rfl)) rfl (by rfl) | exact len_app rfl (len_app (seg_lenE (by rfl)) rfl (by rfl)) (by rfl) | (simp only [seg_len, cellsS, List.length_append, List.length_cons, List.length_nil]; done) | (simp only [seg_len, cellsS, List.length_append, List.length_cons, List.length_nil]; rfl))) (by first | with_reducible exact Wk.refl _ | exact Wk.nil_own _ | exact Wk.nil_pl _ | with_reducible exact Wk.tok _ _ _ | exact Wk.tok _ _ _ | exact .eq rfl) ?_; refine RetL.tmp rfl (.refl _) ?_; exact RetL.nil) (SubM.of (.nil _) (.nil _)) ⟨rfl, rfl, rfl⟩
/-- brack.read -/
def brack_read_j3 (x2 : Int) (x1 : List UInt8) (x86 : Bool) (r : (UInt8 × (Arr 4 (UInt64)) × Bool × Int) × Int) : Prop :=
  ((x86 = true → InR (x2 + 2) ∧ r = (((10 : UInt8), (Arr.rep 4 (0 : UInt64)), false, (x2 + 2)), 0)) ∧ (¬ (x86 = true) → 0 ≤ (x2 : Int) ∧ ∃ y94 : UInt8, x1[(x2 : Int).toNat]? = some y94 ∧ InR (x2 + 1) ∧ r = ((y94, (Arr.rep 4 (0 : UInt64)), false, (x2 + 1)), 0)))
def brack_read_j2 (x1 : List UInt8) (x2 : Int) (x16 : UInt8) (x68 : Bool) (r : (UInt8 × (Arr 4 (UInt64)) × Bool × Int) × Int) : Prop :=
  ((x68 = true → ∃ y80 : (UInt8 × (Arr 4 (UInt64)) × Bool × Int) × Int, brack_named_R x1 x2 y80 ∧ r = (y80.1, y80.2)) ∧ (¬ (x68 = true) → 0 ≤ (x2 : Int) ∧ ∃ y87 : UInt8, x1[(x2 : Int).toNat]? = some y87 ∧ brack_read_j3 x2 x1 ((decide ((y87.toNat : Int) = 92)) && (decide ((x16.toNat : Int) = 110))) r))
def brack_read_j1 (x2 : Int) (x1 : List UInt8) (x16 : UInt8) (r : (UInt8 × (Arr 4 (UInt64)) × Bool × Int) × Int) : Prop :=
  0 ≤ (x2 : Int) ∧ ∃ y69 : UInt8, x1[(x2 : Int).toNat]? = some y69 ∧ brack_read_j2 x1 x2 x16 ((decide ((y69.toNat : Int) = 91)) && ((decide ((x16.toNat : Int) = 58)) || ((decide ((x16.toNat : Int) = 46)) || (decide ((x16.toNat : Int) = 61))))) r
def brack_read_R (x1 : List UInt8) (x2 : Int) (r : (UInt8 × (Arr 4 (UInt64)) × Bool × Int) × Int) : Prop :=
  (((x1.length : Int) ≤ x2 → r = (((0 : UInt8), (Arr.rep 4 (0 : UInt64)), false, 0), 11)) ∧ (¬ ((x1.length : Int) ≤ x2) → InR (x2 + 1) ∧ (((x2 + 1) < (x1.length : Int) → InR (x2 + 1) ∧ 0 ≤ ((x2 + 1) : Int) ∧ ∃ y22 : UInt8, x1[((x2 + 1) : Int).toNat]? = some y22 ∧ brack_read_j1 x2 x1 y22 r) ∧ (¬ ((x2 + 1) < (x1.length : Int)) → brack_read_j1 x2 x1 (0 : UInt8) r))))
def brack_read_j3_ev (fuel : Nat) (x2 : Int) (x1 : List UInt8) (x86 : Bool) : Option ((UInt8 × (Arr 4 (UInt64)) × Bool × Int) × Int) :=
  (if x86 = true then (if InR (x2 + 2) then some (((10 : UInt8), (Arr.rep 4 (0 : UInt64)), false, (x2 + 2)), 0) else none) else (if 0 ≤ (x2 : Int) then ((x1[(x2 : Int).toNat]?).bind fun y94 => (if InR (x2 + 1) then some ((y94, (Arr.rep 4 (0 : UInt64)), false, (x2 + 1)), 0) else none)) else none))
theorem brack_read_j3_ok {fuel : Nat} {x2 : Int} {x1 : List UInt8} {x86 : Bool} {r : (UInt8 × (Arr 4 (UInt64)) × Bool × Int) × Int} (h : brack_read_j3_ev fuel x2 x1 x86 = some r) : brack_read_j3 x2 x1 x86 r := by
  unfold brack_read_j3_ev at h
  unfold brack_read_j3
  refine ⟨fun g86 => ?_, fun g86 => ?_⟩
  · rw [if_pos g86] at h
    obtain ⟨g87, h⟩ := if_ok h
    refine ⟨g87, ?_⟩
    exact (Option.some.inj h).symm
  · rw [if_neg g86] at h
    obtain ⟨g88, h⟩ := if_ok h
    refine ⟨g88, ?_⟩
    obtain ⟨q89, g89, h⟩ := bind_ok h
    refine ⟨q89, g89, ?_⟩
    obtain ⟨g90, h⟩ := if_ok h
    refine ⟨g90, ?_⟩
    exact (Option.some.inj h).symm
def brack_read_j2_ev (fuel : Nat) (x1 : List UInt8) (x2 : Int) (x16 : UInt8) (x68 : Bool) : Option ((UInt8 × (Arr 4 (UInt64)) × Bool × Int) × Int) :=
  (if x68 = true then ((brack_named_ev fuel x1 x2).bind fun y80 => some (y80.1, y80.2)) else (if 0 ≤ (x2 : Int) then ((x1[(x2 : Int).toNat]?).bind fun y87 => brack_read_j3_ev fuel x2 x1 ((decide ((y87.toNat : Int) = 92)) && (decide ((x16.toNat : Int) = 110)))) else none))
theorem brack_read_j2_ok {fuel : Nat} {x1 : List UInt8} {x2 : Int} {x16 : UInt8} {x68 : Bool} {r : (UInt8 × (Arr 4 (UInt64)) × Bool × Int) × Int} (h : brack_read_j2_ev fuel x1 x2 x16 x68 = some r) : brack_read_j2 x1 x2 x16 x68 r := by
  unfold brack_read_j2_ev at h
  unfold brack_read_j2
  refine ⟨fun g91 => ?_, fun g91 => ?_⟩
  · rw [if_pos g91] at h
    obtain ⟨q92, g92, h⟩ := bind_ok h
    refine ⟨q92, brack_named_ok g92, ?_⟩
    exact (Option.some.inj h).symm
  · rw [if_neg g91] at h
    obtain ⟨g93, h⟩ := if_ok h
    refine ⟨g93, ?_⟩
    obtain ⟨q94, g94, h⟩ := bind_ok h
    refine ⟨q94, g94, ?_⟩
    exact brack_read_j3_ok h
def brack_read_j1_ev (fuel : Nat) (x2 : Int) (x1 : List UInt8) (x16 : UInt8) : Option ((UInt8 × (Arr 4 (UInt64)) × Bool × Int) × Int) :=
  (if 0 ≤ (x2 : Int) then ((x1[(x2 : Int).toNat]?).bind fun y69 => brack_read_j2_ev fuel x1 x2 x16 ((decide ((y69.toNat : Int) = 91)) && ((decide ((x16.toNat : Int) = 58)) || ((decide ((x16.toNat : Int) = 46)) || (decide ((x16.toNat : Int) = 61)))))) else none)
theorem brack_read_j1_ok {fuel : Nat} {x2 : Int} {x1 : List UInt8} {x16 : UInt8} {r : (UInt8 × (Arr 4 (UInt64)) × Bool × Int) × Int} (h : brack_read_j1_ev fuel x2 x1 x16 = some r) : brack_read_j1 x2 x1 x16 r := by
  unfold brack_read_j1_ev at h
  unfold brack_read_j1
  obtain ⟨g95, h⟩ := if_ok h
  refine ⟨g95, ?_⟩
  obtain ⟨q96, g96, h⟩ := bind_ok h
  refine ⟨q96, g96, ?_⟩
  exact brack_read_j2_ok h
def brack_read_ev (fuel : Nat) (x1 : List UInt8) (x2 : Int) : Option ((UInt8 × (Arr 4 (UInt64)) × Bool × Int) × Int) :=
  (if (x1.length : Int) ≤ x2 then some (((0 : UInt8), (Arr.rep 4 (0 : UInt64)), false, 0), 11) else (if InR (x2 + 1) then (if (x2 + 1) < (x1.length : Int) then (if InR (x2 + 1) then (if 0 ≤ ((x2 + 1) : Int) then ((x1[((x2 + 1) : Int).toNat]?).bind fun y22 => brack_read_j1_ev fuel x2 x1 y22) else none) else none) else brack_read_j1_ev fuel x2 x1 (0 : UInt8)) else none))
theorem brack_read_ok {fuel : Nat} {x1 : List UInt8} {x2 : Int} {r : (UInt8 × (Arr 4 (UInt64)) × Bool × Int) × Int} (h : brack_read_ev fuel x1 x2 = some r) : brack_read_R x1 x2 r := by
  unfold brack_read_ev at h
  unfold brack_read_R
  refine ⟨fun g97 => ?_, fun g97 => ?_⟩
  · rw [if_pos g97] at h
    exact (Option.some.inj h).symm
  · rw [if_neg g97] at h
    obtain ⟨g98, h⟩ := if_ok h
    refine ⟨g98, ?_⟩
    refine ⟨fun g99 => ?_, fun g99 => ?_⟩
    · rw [if_pos g99] at h
      obtain ⟨g100, h⟩ := if_ok h
      refine ⟨g100, ?_⟩
      obtain ⟨g101, h⟩ := if_ok h
      refine ⟨g101, ?_⟩
      obtain ⟨q102, g102, h⟩ := bind_ok h
      refine ⟨q102, g102, ?_⟩
      exact brack_read_j1_ok h
    · rw [if_neg g99] at h
      exact brack_read_j1_ok h
set_option maxHeartbeats 4000000 in
theorem brack_read_con (x1 : List UInt8) (x2 : Int) (r : (UInt8 × (Arr 4 (UInt64)) × Bool × Int) × Int) (h : brack_read_R x1 x2 r) : Con Try.prog 22 [.sl 1 none (List.map eb x1), .v (.int .i64 x2)] [] [] (fun rr bx tk => rr = .tup [.agg ([.v (.int .u8 ((r.1.1.toNat : Int)))] ++ ((List.map ew r.1.2.1.l).flatten ++ [.v (.bool r.1.2.2.1), .v (.int .i64 r.1.2.2.2)])), .v (.int .i64 r.2)] ∧ bx = [] ∧ tk = []) := by
  refine xenter Try.func22 rfl rfl fun g hg => ?_
  simp only [Try.ntmps22, slots]
  refine xseq ?_
  refine xregion ?_
  refine xalloc InfC.h rfl rfl fun b4 => ?_
  refine xreb 0 ([.v (.int .u8 0)] ++ ((List.map ew ((Arr.rep 4 (0 : UInt64))).l).flatten ++ [.v (.bool false), .v (.int .i64 0)])) rfl rfl ?_
  refine xvalP (pv_assign rfl) rfl rfl ?_
  refine xnil ?_
  refine xthen ?_
  refine xseq ?_
  refine xseq ?_
  refine xregion ?_
  refine xvalP (pv_move rfl) rfl rfl ?_
  refine xvalP (pv_move rfl) rfl rfl ?_
  refine xvalP (pv_lenM UndC.h rfl) rfl rfl ?_
  refine xvalP (pv_bin2 rfl rfl rfl) rfl rfl ?_
  refine xnil ?_
  refine xthen ?_
  by_cases hp8 : (x1.length : Int) ≤ x2
  · replace h := h.1 hp8
    refine xcondT' (decide_eq_true hp8) rfl ?_
    refine xseq ?_
    refine xregion ?_
    refine xvalP (pv_buildC (cs := ([.v (.int .u8 0)] ++ ((List.map ew ((Arr.rep 4 (0 : UInt64))).l).flatten ++ [.v (.bool false), .v (.int .i64 0)]))) StrC.h rfl (by exact congrArg some (by first | rfl | exact (List.append_nil _).symm | exact List.append_nil _ | exact List.append_assoc _ _ _ | exact (List.append_assoc _ _ _).symm | exact congrArg _ (List.append_nil _).symm | exact congrArg _ (List.append_nil _) | (simp; done) | (simp [cellsS]; done)))) rfl rfl ?_
    refine xstoreP 0 [] ([.v (.int .u8 0)] ++ ((List.map ew ((Arr.rep 4 (0 : UInt64))).l).flatten ++ [.v (.bool false), .v (.int .i64 0)])) [] (by first | rfl | exact (List.append_nil _).symm | exact List.append_nil _ | exact List.append_assoc _ _ _ | exact (List.append_assoc _ _ _).symm | exact congrArg _ (List.append_nil _).symm | exact congrArg _ (List.append_nil _) | (simp; done) | (simp [cellsS]; done)) (by first | rfl | exact seg_lenE (by rfl) | exact len_app rfl (seg_lenE (by rfl)) (by rfl) | exact len_app (seg_lenE (by rfl)) rfl (by rfl) | exact len_app rfl (len_app (seg_lenE (by rfl)) rfl (by rfl)) (by rfl) | (simp only [seg_len, cellsS, List.length_append, List.length_cons, List.length_nil]; done) | (simp only [seg_len, cellsS, List.length_append, List.length_cons, List.length_nil]; rfl)) (by first | rfl | exact seg_lenE (by rfl) | exact len_app rfl (seg_lenE (by rfl)) (by rfl) | exact len_app (seg_lenE (by rfl)) rfl (by rfl) | exact len_app rfl (len_app (seg_lenE (by rfl)) rfl (by rfl)) (by rfl) | (simp only [seg_len, cellsS, List.length_append, List.length_cons, List.length_nil]; done) | (simp only [seg_len, cellsS, List.length_append, List.length_cons, List.length_nil]; rfl)) ShpC.h rfl rfl rfl rfl (by first | rfl | exact seg_lenE (by rfl) | exact len_app rfl (seg_lenE (by rfl)) (by rfl) | exact len_app (seg_lenE (by rfl)) rfl (by rfl) | exact len_app rfl (len_app (seg_lenE (by rfl)) rfl (by rfl)) (by rfl) | (simp only [seg_len, cellsS, List.length_append, List.length_cons, List.length_nil]; done) | (simp only [seg_len, cellsS, List.length_append, List.length_cons, List.length_nil]; rfl)) rfl ?_
    refine xreb 0 ([.v (.int .u8 0)] ++ ((List.map ew ((Arr.rep 4 (0 : UInt64))).l).flatten ++ [.v (.bool false), .v (.int .i64 0)])) rfl (by first | rfl | exact (List.append_nil _).symm | exact List.append_nil _ | exact List.append_assoc _ _ _ | exact (List.append_assoc _ _ _).symm | exact congrArg _ (List.append_nil _).symm | exact congrArg _ (List.append_nil _) | (simp; done) | (simp [cellsS]; done)) ?_
    refine xvalP (pv_assign rfl) rfl rfl ?_
    refine xnil ?_
    refine xthen ?_
    refine xretc ?_
    refine xthen_ret ?_
    replace h := h.symm
    subst h
    exact xretL (rs := [.cell 4 48, .tmp 5]) (ss := [.agg ([.v (.int .u8 (((0 : UInt8).toNat : Int)))] ++ ((List.map ew ((Arr.rep 4 (0 : UInt64))).l).flatten ++ [.v (.bool false), .v (.int .i64 0)])), .v (.int .i64 11)]) hg rfl (by refine RetL.cell 0 ShpC.h rfl rfl (part_midE (pre := []) (mid := ([.v (.int .u8 0)] ++ ((List.map ew ((Arr.rep 4 (0 : UInt64))).l).flatten ++ [.v (.bool false), .v (.int .i64 0)]))) (post := []) (by first | rfl | exact (List.append_nil _).symm | exact List.append_nil _ | exact List.append_assoc _ _ _ | exact (List.append_assoc _ _ _).symm | exact congrArg _ (List.append_nil _).symm | exact congrArg _ (List.append_nil _) | (simp; done) | (simp [cellsS]; done)) (by first | rfl | exact seg_lenE (by rfl) | exact len_app rfl (seg_lenE (by rfl)) (by rfl) | exact len_app (seg_lenE (by rfl)) rfl (by rfl) | exact len_app rfl (len_app (seg_lenE (by rfl)) rfl (by rfl)) (by rfl) | (simp only [seg_len, cellsS, List.length_append, List.length_cons, List.length_nil]; done) | (simp only [seg_len, cellsS, List.length_append, List.length_cons, List.length_nil]; rfl)) (by first | rfl | exact seg_lenE (by rfl) | exact len_app rfl (seg_lenE (by rfl)) (by rfl) | exact len_app (seg_lenE (by rfl)) rfl (by rfl) | exact len_app rfl (len_app (seg_lenE (by rfl)) rfl (by rfl)) (by rfl) | (simp only [seg_len, cellsS, List.length_append, List.length_cons, List.length_nil]; done) | (simp only [seg_len, cellsS, List.length_append, List.length_cons, List.length_nil]; rfl)) (part_all (by first | rfl | exact seg_lenE (by rfl) | exact len_app rfl (seg_lenE (by rfl)) (by rfl) | exact len_app (seg_lenE (by rfl)) rfl (by rfl) | exact len_app rfl (len_app (seg_lenE (by rfl)) rfl (by rfl)) (by rfl) | (simp only [seg_len, cellsS, List.length_append, List.length_cons, List.length_nil]; done) | (simp only [seg_len, cellsS, List.length_append, List.length_cons, List.length_nil]; rfl)))) (len_midE (pre := []) (mid := ([.v (.int .u8 0)] ++ ((List.map ew ((Arr.rep 4 (0 : UInt64))).l).flatten ++ [.v (.bool false), .v (.int .i64 0)]))) (post := []) (by first | rfl | exact (List.append_nil _).symm | exact List.append_nil _ | exact List.append_assoc _ _ _ | exact (List.append_assoc _ _ _).symm | exact congrArg _ (List.append_nil _).symm | exact congrArg _ (List.append_nil _) | (simp; done) | (simp [cellsS]; done)) (by first | rfl | exact seg_lenE (by rfl) | exact len_app rfl (seg_lenE (by rfl)) (by rfl) | exact len_app (seg_lenE (by rfl)) rfl (by rfl) | exact len_app rfl (len_app (seg_lenE (by rfl)) rfl (by rfl)) (by rfl) | (simp only [seg_len, cellsS, List.length_append, List.length_cons, List.length_nil]; done) | (simp only [seg_len, cellsS, List.length_append, List.length_cons, List.length_nil]; rfl)) (by first | rfl | exact seg_lenE (by rfl) | exact len_app rfl (seg_lenE (by rfl)) (by rfl) | exact len_app (seg_lenE (by rfl)) rfl (by rfl) | exact len_app rfl (len_app (seg_lenE (by rfl)) rfl (by rfl)) (by rfl) | (simp only [seg_len, cellsS, List.length_append, List.length_cons, List.length_nil]; done) | (simp only [seg_len, cellsS, List.length_append, List.length_cons, List.length_nil]; rfl))) (by first | with_reducible exact Wk.refl _ | exact Wk.nil_own _ | exact Wk.nil_pl _ | with_reducible exact Wk.tok _ _ _ | exact Wk.tok _ _ _ | exact .eq rfl) ?_; refine RetL.tmp rfl (.refl _) ?_; exact RetL.nil) (SubM.of (.nil _) (.nil _)) ⟨rfl, rfl, rfl⟩
  · replace h := h.2 hp8
    refine xcondF' (decide_eq_false hp8) rfl ?_
    refine xskipc ?_
    refine xthen ?_
    refine xseq ?_
    refine xregion ?_
    refine xvalP (pv_assign rfl) rfl rfl ?_
    refine xnil ?_
    refine xthen ?_
    refine xseqM (fun σ => ∃ (x16 : UInt8), brack_read_j1 x2 x1 x16 r ∧ σ = ⟨[(0, .sl 1 none (List.map eb x1)), (1, .v (.int .i64 x2)), (4, .v (.pointer (some ⟨b4, 0, none⟩))), (6, .v (.int .u8 ((x16.toNat : Int))))], [⟨b4, 48, ([.v (.int .u8 0)] ++ ((List.map ew ((Arr.rep 4 (0 : UInt64))).l).flatten ++ [.v (.bool false), .v (.int .i64 0)]))⟩], []⟩) ?_ ?_
    · refine xseq ?_
      refine xregion ?_
      refine xvalP (pv_move rfl) rfl rfl ?_
      obtain ⟨h17, h⟩ := h
      refine xvalP (pv_addI h17 rfl rfl) rfl rfl ?_
      refine xvalP (pv_move rfl) rfl rfl ?_
      refine xvalP (pv_lenM UndC.h rfl) rfl rfl ?_
      refine xvalP (pv_bin2 rfl rfl rfl) rfl rfl ?_
      refine xnil ?_
      refine xthen ?_
      by_cases hp20 : (x2 + 1) < (x1.length : Int)
      · replace h := h.1 hp20
        refine xcondT' (decide_eq_true hp20) rfl ?_
        refine xregion ?_
        refine xvalP (pv_move rfl) rfl rfl ?_
        refine xvalP (pv_move rfl) rfl rfl ?_
        obtain ⟨h21, h⟩ := h
        refine xvalP (pv_addI h21 rfl rfl) rfl rfl ?_
        obtain ⟨h23a, h⟩ := h
        obtain ⟨y22, h23b, h⟩ := h
        refine xvalP (pv_indexAddrM h23a h23b UndC.h ShpC.h rfl rfl) rfl rfl ?_
        refine xval (qv_load ShpC.h rfl rfl rfl) rfl rfl ?_
        refine xvalP (pv_assign rfl) rfl rfl ?_
        refine xnil ?_
        exact xmeet ⟨y22, h, rfl⟩ ⟨(.cons rfl (.refl _) (.cons rfl (.refl _) (.cons rfl (.refl _) (.cons rfl (.refl _) (.nil _))))), (SubM.of (.keep rfl rfl (.refl _) (.nil _)) (.nil _))⟩
      · replace h := h.2 hp20
        refine xcondF' (decide_eq_false hp20) rfl ?_
        refine xskipc ?_
        exact xmeet ⟨(0 : UInt8), h, rfl⟩ ⟨(.cons rfl (.refl _) (.cons rfl (.refl _) (.cons rfl (.refl _) (.cons rfl (.refl _) (.nil _))))), (SubM.of (.keep rfl rfl (.refl _) (.nil _)) (.nil _))⟩
    · clear h
      rintro _ ⟨x16, h, rfl⟩
      refine xseq ?_
      refine xblock ?_
      refine xseqM (fun σ => ∃ (x68 : Bool), brack_read_j2 x1 x2 x16 x68 r ∧ σ = ⟨[(0, .sl 1 none (List.map eb x1)), (1, .v (.int .i64 x2)), (4, .v (.pointer (some ⟨b4, 0, none⟩))), (6, .v (.int .u8 ((x16.toNat : Int)))), (22, .v (.bool x68))], [⟨b4, 48, ([.v (.int .u8 0)] ++ ((List.map ew ((Arr.rep 4 (0 : UInt64))).l).flatten ++ [.v (.bool false), .v (.int .i64 0)]))⟩], []⟩) ?_ ?_
      · refine xregion ?_
        refine xvalP (pv_move rfl) rfl rfl ?_
        refine xvalP (pv_move rfl) rfl rfl ?_
        obtain ⟨h70a, h⟩ := h
        obtain ⟨y69, h70b, h⟩ := h
        refine xvalP (pv_indexAddrM h70a h70b UndC.h ShpC.h rfl rfl) rfl rfl ?_
        refine xval (qv_load ShpC.h rfl rfl rfl) rfl rfl ?_
        refine xvalP (pv_bin2 rfl rfl rfl) rfl rfl ?_
        refine xvalP (pv_move rfl) rfl rfl ?_
        by_cases hp72 : (y69.toNat : Int) = 91
        · rw [show (decide ((y69.toNat : Int) = 91)) = true from (decide_eq_true hp72), Bool.true_and] at h
          refine xsetB 28 (decide_eq_true hp72) rfl ?_
          refine xvalP (pv_move rfl) rfl rfl ?_
          refine xvalP (pv_bin2 rfl rfl rfl) rfl rfl ?_
          refine xvalP (pv_move rfl) rfl rfl ?_
          by_cases hp74 : (x16.toNat : Int) = 58
          · rw [show (decide ((x16.toNat : Int) = 58)) = true from (decide_eq_true hp74), Bool.true_or] at h
            refine xsetB 31 (decide_eq_true hp74) rfl ?_
            refine xskip rfl rfl ?_
            refine xskip rfl rfl ?_
            refine xvalP (pv_pick rfl rfl) rfl rfl ?_
            refine xvalP (pv_move rfl) rfl rfl ?_
            refine xskip rfl rfl ?_
            refine xskip rfl rfl ?_
            refine xvalP (pv_pick rfl rfl) rfl rfl ?_
            refine xvalP (pv_pick rfl rfl) rfl rfl ?_
            refine xvalP (pv_assign rfl) rfl rfl ?_
            refine xnil ?_
            exact xmeet ⟨true, h, rfl⟩ ⟨(.cons rfl (.refl _) (.cons rfl (.refl _) (.cons rfl (.refl _) (.cons rfl (.refl _) (.cons rfl (.refl _) (.nil _)))))), (SubM.of (.keep rfl rfl (.refl _) (.nil _)) (.nil _))⟩
          · rw [show (decide ((x16.toNat : Int) = 58)) = false from (decide_eq_false hp74), Bool.false_or] at h
            refine xsetB 31 (decide_eq_false hp74) rfl ?_
            refine xvalP (pv_move rfl) rfl rfl ?_
            refine xvalP (pv_bin2 rfl rfl rfl) rfl rfl ?_
            refine xvalP (pv_pick rfl rfl) rfl rfl ?_
            refine xvalP (pv_move rfl) rfl rfl ?_
            by_cases hp76 : (x16.toNat : Int) = 46
            · rw [show (decide ((x16.toNat : Int) = 46)) = true from (decide_eq_true hp76), Bool.true_or] at h
              refine xsetB 35 (decide_eq_true hp76) rfl ?_
              refine xskip rfl rfl ?_
              refine xskip rfl rfl ?_
              refine xvalP (pv_pick rfl rfl) rfl rfl ?_
              refine xvalP (pv_pick rfl rfl) rfl rfl ?_
              refine xvalP (pv_assign rfl) rfl rfl ?_
              refine xnil ?_
              exact xmeet ⟨true, h, rfl⟩ ⟨(.cons rfl (.refl _) (.cons rfl (.refl _) (.cons rfl (.refl _) (.cons rfl (.refl _) (.cons rfl (.refl _) (.nil _)))))), (SubM.of (.keep rfl rfl (.refl _) (.nil _)) (.nil _))⟩
            · rw [show (decide ((x16.toNat : Int) = 46)) = false from (decide_eq_false hp76), Bool.false_or] at h
              refine xsetB 35 (decide_eq_false hp76) rfl ?_
              refine xvalP (pv_move rfl) rfl rfl ?_
              refine xvalP (pv_bin2 rfl rfl rfl) rfl rfl ?_
              refine xvalP (pv_pick rfl rfl) rfl rfl ?_
              refine xvalP (pv_pick rfl rfl) rfl rfl ?_
              refine xvalP (pv_assign rfl) rfl rfl ?_
              refine xnil ?_
              exact xmeet ⟨(decide ((x16.toNat : Int) = 61)), h, rfl⟩ ⟨(.cons rfl (.refl _) (.cons rfl (.refl _) (.cons rfl (.refl _) (.cons rfl (.refl _) (.cons rfl (.refl _) (.nil _)))))), (SubM.of (.keep rfl rfl (.refl _) (.nil _)) (.nil _))⟩
        · rw [show (decide ((y69.toNat : Int) = 91)) = false from (decide_eq_false hp72), Bool.false_and] at h
          refine xsetB 28 (decide_eq_false hp72) rfl ?_
          refine xskip rfl rfl ?_
          refine xskip rfl rfl ?_
          refine xskip rfl rfl ?_
          refine xskip rfl rfl ?_
          refine xskip rfl rfl ?_
          refine xskip rfl rfl ?_
          refine xskip rfl rfl ?_
          refine xskip rfl rfl ?_
          refine xskip rfl rfl ?_
          refine xskip rfl rfl ?_
          refine xvalP (pv_pick rfl rfl) rfl rfl ?_
          refine xvalP (pv_assign rfl) rfl rfl ?_
          refine xnil ?_
          exact xmeet ⟨false, h, rfl⟩ ⟨(.cons rfl (.refl _) (.cons rfl (.refl _) (.cons rfl (.refl _) (.cons rfl (.refl _) (.cons rfl (.refl _) (.nil _)))))), (SubM.of (.keep rfl rfl (.refl _) (.nil _)) (.nil _))⟩
      · clear h
        rintro _ ⟨x68, h, rfl⟩
        by_cases hp78 : x68 = true
        · replace h := h.1 hp78
          refine xcondT' hp78 rfl ?_
          refine xseq ?_
          refine xregion ?_
          refine xvalP (pv_move rfl) rfl rfl ?_
          refine xvalP (pv_move rfl) rfl rfl ?_
          obtain ⟨y80, h79, h⟩ := h
          refine xcallF (Fb := [⟨b4, 48, ([.v (.int .u8 0)] ++ ((List.map ew ((Arr.rep 4 (0 : UInt64))).l).flatten ++ [.v (.bool false), .v (.int .i64 0)]))⟩]) (Ft := []) (brack_named_con x1 x2 _ h79) Try.func28 (by kernel_rfl) rfl (.cons rfl (.refl _) (.cons rfl (.refl _) .nil)) (by exact (SubM.of (by repeat (first | with_reducible exact SubB.refl _ | exact SubB.nil _ | refine SubB.keep rfl rfl (by first | with_reducible exact WkL.refl _ | ((repeat (first | exact WkL.nil | refine WkL.cons (by first | with_reducible exact Wk.refl _ | exact Wk.nil_own _ | exact Wk.nil_pl _ | with_reducible exact Wk.tok _ _ _ | exact Wk.tok _ _ _ | exact Wk.eq (by first | rfl | (simp []; done) | (simp []; omega))) ?_)); done) | exact WkL.refl _) ?_ | refine SubB.drop ?_)) (by repeat (first | exact SubT.nil _ | refine SubT.add ?_ | (refine SubT.keep ?_ ?_; focus (first | with_reducible rfl | (simp []; done))) | refine SubT.drop ?_)))) rfl rfl ?_
          rintro _ _ _ ⟨rfl, rfl, rfl⟩
          simp only [List.nil_append, List.cons_append]
          refine xvalP (pv_extract rfl rfl) rfl rfl ?_
          refine xvalP (pv_extract rfl rfl) rfl rfl ?_
          refine xstoreP 0 [] ([.v (.int .u8 0)] ++ ((List.map ew ((Arr.rep 4 (0 : UInt64))).l).flatten ++ [.v (.bool false), .v (.int .i64 0)])) [] (by first | rfl | exact (List.append_nil _).symm | exact List.append_nil _ | exact List.append_assoc _ _ _ | exact (List.append_assoc _ _ _).symm | exact congrArg _ (List.append_nil _).symm | exact congrArg _ (List.append_nil _) | (simp; done) | (simp [cellsS]; done)) (by first | rfl | exact seg_lenE (by rfl) | exact len_app rfl (seg_lenE (by rfl)) (by rfl) | exact len_app (seg_lenE (by rfl)) rfl (by rfl) | exact len_app rfl (len_app (seg_lenE (by rfl)) rfl (by rfl)) (by rfl) | (simp only [seg_len, cellsS, List.length_append, List.length_cons, List.length_nil]; done) | (simp only [seg_len, cellsS, List.length_append, List.length_cons, List.length_nil]; rfl)) (by first | rfl | exact seg_lenE (by rfl) | exact len_app rfl (seg_lenE (by rfl)) (by rfl) | exact len_app (seg_lenE (by rfl)) rfl (by rfl) | exact len_app rfl (len_app (seg_lenE (by rfl)) rfl (by rfl)) (by rfl) | (simp only [seg_len, cellsS, List.length_append, List.length_cons, List.length_nil]; done) | (simp only [seg_len, cellsS, List.length_append, List.length_cons, List.length_nil]; rfl)) ShpC.h rfl rfl rfl rfl (by first | rfl | exact seg_lenE (by rfl) | exact len_app rfl (seg_lenE (by rfl)) (by rfl) | exact len_app (seg_lenE (by rfl)) rfl (by rfl) | exact len_app rfl (len_app (seg_lenE (by rfl)) rfl (by rfl)) (by rfl) | (simp only [seg_len, cellsS, List.length_append, List.length_cons, List.length_nil]; done) | (simp only [seg_len, cellsS, List.length_append, List.length_cons, List.length_nil]; rfl)) rfl ?_
          refine xreb 0 ([.v (.int .u8 ((y80.1.1.toNat : Int)))] ++ ((List.map ew y80.1.2.1.l).flatten ++ [.v (.bool y80.1.2.2.1), .v (.int .i64 y80.1.2.2.2)])) rfl (by first | rfl | exact (List.append_nil _).symm | exact List.append_nil _ | exact List.append_assoc _ _ _ | exact (List.append_assoc _ _ _).symm | exact congrArg _ (List.append_nil _).symm | exact congrArg _ (List.append_nil _) | (simp; done) | (simp [cellsS]; done)) ?_
          refine xvalP (pv_assign rfl) rfl rfl ?_
          refine xnil ?_
          refine xthen ?_
          refine xretc ?_
          refine xin_ret ?_
          refine xthen_ret ?_
          replace h := h.symm
          subst h
          exact xretL (rs := [.cell 4 48, .tmp 5]) (ss := [.agg ([.v (.int .u8 ((y80.1.1.toNat : Int)))] ++ ((List.map ew y80.1.2.1.l).flatten ++ [.v (.bool y80.1.2.2.1), .v (.int .i64 y80.1.2.2.2)])), .v (.int .i64 y80.2)]) hg rfl (by refine RetL.cell 0 ShpC.h rfl rfl (part_midE (pre := []) (mid := ([.v (.int .u8 ((y80.1.1.toNat : Int)))] ++ ((List.map ew y80.1.2.1.l).flatten ++ [.v (.bool y80.1.2.2.1), .v (.int .i64 y80.1.2.2.2)]))) (post := []) (by first | rfl | exact (List.append_nil _).symm | exact List.append_nil _ | exact List.append_assoc _ _ _ | exact (List.append_assoc _ _ _).symm | exact congrArg _ (List.append_nil _).symm | exact congrArg _ (List.append_nil _) | (simp; done) | (simp [cellsS]; done)) (by first | rfl | exact seg_lenE (by rfl) | exact len_app rfl (seg_lenE (by rfl)) (by rfl) | exact len_app (seg_lenE (by rfl)) rfl (by rfl) | exact len_app rfl (len_app (seg_lenE (by rfl)) rfl (by rfl)) (by rfl) | (simp only [seg_len, cellsS, List.length_append, List.length_cons, List.length_nil]; done) | (simp only [seg_len, cellsS, List.length_append, List.length_cons, List.length_nil]; rfl)) (by first | rfl | exact seg_lenE (by rfl) | exact len_app rfl (seg_lenE (by rfl)) (by rfl) | exact len_app (seg_lenE (by rfl)) rfl (by rfl) | exact len_app rfl (len_app (seg_lenE (by rfl)) rfl (by rfl)) (by rfl) | (simp only [seg_len, cellsS, List.length_append, List.length_cons, List.length_nil]; done) | (simp only [seg_len, cellsS, List.length_append, List.length_cons, List.length_nil]; rfl)) (part_all (by first | rfl | exact seg_lenE (by rfl) | exact len_app rfl (seg_lenE (by rfl)) (by rfl) | exact len_app (seg_lenE (by rfl)) rfl (by rfl) | exact len_app rfl (len_app (seg_lenE (by rfl)) rfl (by rfl)) (by rfl) | (simp only [seg_len, cellsS, List.length_append, List.length_cons, List.length_nil]; done) | (simp only [seg_len, cellsS, List.length_append, List.length_cons, List.length_nil]; rfl)))) (len_midE (pre := []) (mid := ([.v (.int .u8 ((y80.1.1.toNat : Int)))] ++ ((List.map ew y80.1.2.1.l).flatten ++ [.v (.bool y80.1.2.2.1), .v (.int .i64 y80.1.2.2.2)]))) (post := []) (by first | rfl | exact (List.append_nil _).symm | exact List.append_nil _ | exact List.append_assoc _ _ _ | exact (List.append_assoc _ _ _).symm | exact congrArg _ (List.append_nil _).symm | exact congrArg _ (List.append_nil _) | (simp; done) | (simp [cellsS]; done)) (by first | rfl | exact seg_lenE (by rfl) | exact len_app rfl (seg_lenE (by rfl)) (by rfl) | exact len_app (seg_lenE (by rfl)) rfl (by rfl) | exact len_app rfl (len_app (seg_lenE (by rfl)) rfl (by rfl)) (by rfl) | (simp only [seg_len, cellsS, List.length_append, List.length_cons, List.length_nil]; done) | (simp only [seg_len, cellsS, List.length_append, List.length_cons, List.length_nil]; rfl)) (by first | rfl | exact seg_lenE (by rfl) | exact len_app rfl (seg_lenE (by rfl)) (by rfl) | exact len_app (seg_lenE (by rfl)) rfl (by rfl) | exact len_app rfl (len_app (seg_lenE (by rfl)) rfl (by rfl)) (by rfl) | (simp only [seg_len, cellsS, List.length_append, List.length_cons, List.length_nil]; done) | (simp only [seg_len, cellsS, List.length_append, List.length_cons, List.length_nil]; rfl))) (by first | with_reducible exact Wk.refl _ | exact Wk.nil_own _ | exact Wk.nil_pl _ | with_reducible exact Wk.tok _ _ _ | exact Wk.tok _ _ _ | exact .eq rfl) ?_; refine RetL.tmp rfl (.refl _) ?_; exact RetL.nil) (SubM.of (.nil _) (.nil _)) ⟨rfl, rfl, rfl⟩
        · replace h := h.2 hp78
          refine xcondF' (b_f hp78) rfl ?_
          refine xseqM (fun σ => ∃ (x86 : Bool), brack_read_j3 x2 x1 x86 r ∧ σ = ⟨[(0, .sl 1 none (List.map eb x1)), (1, .v (.int .i64 x2)), (4, .v (.pointer (some ⟨b4, 0, none⟩))), (45, .v (.bool x86))], [⟨b4, 48, ([.v (.int .u8 0)] ++ ((List.map ew ((Arr.rep 4 (0 : UInt64))).l).flatten ++ [.v (.bool false), .v (.int .i64 0)]))⟩], []⟩) ?_ ?_
          · refine xregion ?_
            refine xvalP (pv_move rfl) rfl rfl ?_
            refine xvalP (pv_move rfl) rfl rfl ?_
            obtain ⟨h88a, h⟩ := h
            obtain ⟨y87, h88b, h⟩ := h
            refine xvalP (pv_indexAddrM h88a h88b UndC.h ShpC.h rfl rfl) rfl rfl ?_
            refine xval (qv_load ShpC.h rfl rfl rfl) rfl rfl ?_
            refine xvalP (pv_bin2 rfl rfl rfl) rfl rfl ?_
            refine xvalP (pv_move rfl) rfl rfl ?_
            by_cases hp90 : (y87.toNat : Int) = 92
            · rw [show (decide ((y87.toNat : Int) = 92)) = true from (decide_eq_true hp90), Bool.true_and] at h
              refine xsetB 51 (decide_eq_true hp90) rfl ?_
              refine xvalP (pv_move rfl) rfl rfl ?_
              refine xvalP (pv_bin2 rfl rfl rfl) rfl rfl ?_
              refine xvalP (pv_pick rfl rfl) rfl rfl ?_
              refine xvalP (pv_assign rfl) rfl rfl ?_
              refine xnil ?_
              exact xmeet ⟨(decide ((x16.toNat : Int) = 110)), h, rfl⟩ ⟨(.cons rfl (.refl _) (.cons rfl (.refl _) (.cons rfl (.refl _) (.cons rfl (.refl _) (.nil _))))), (SubM.of (.keep rfl rfl (.refl _) (.nil _)) (.nil _))⟩
            · rw [show (decide ((y87.toNat : Int) = 92)) = false from (decide_eq_false hp90), Bool.false_and] at h
              refine xsetB 51 (decide_eq_false hp90) rfl ?_
              refine xskip rfl rfl ?_
              refine xskip rfl rfl ?_
              refine xvalP (pv_pick rfl rfl) rfl rfl ?_
              refine xvalP (pv_assign rfl) rfl rfl ?_
              refine xnil ?_
              exact xmeet ⟨false, h, rfl⟩ ⟨(.cons rfl (.refl _) (.cons rfl (.refl _) (.cons rfl (.refl _) (.cons rfl (.refl _) (.nil _))))), (SubM.of (.keep rfl rfl (.refl _) (.nil _)) (.nil _))⟩
          · clear h
            rintro _ ⟨x86, h, rfl⟩
            by_cases hp92 : x86 = true
            · replace h := h.1 hp92
              refine xcondT' hp92 rfl ?_
              refine xseq ?_
              refine xregion ?_
              refine xvalP (pv_move rfl) rfl rfl ?_
              obtain ⟨h93, h⟩ := h
              refine xvalP (pv_addI h93 rfl rfl) rfl rfl ?_
              refine xvalP (pv_buildC (cs := ([.v (.int .u8 10)] ++ ((List.map ew ((Arr.rep 4 (0 : UInt64))).l).flatten ++ [.v (.bool false), .v (.int .i64 ((x2 + 2)))]))) StrC.h rfl (by refine fill_step [] [.v (.int .u8 0)] (((List.map ew ((Arr.rep 4 (0 : UInt64))).l).flatten ++ [.v (.bool false), .v (.int .i64 0)])) (by first | rfl | exact (List.append_nil _).symm | exact List.append_nil _ | exact List.append_assoc _ _ _ | exact (List.append_assoc _ _ _).symm | exact congrArg _ (List.append_nil _).symm | exact congrArg _ (List.append_nil _) | (simp; done) | (simp [cellsS]; done)) (by first | rfl | exact seg_lenE (by rfl) | exact len_app rfl (seg_lenE (by rfl)) (by rfl) | exact len_app (seg_lenE (by rfl)) rfl (by rfl) | exact len_app rfl (len_app (seg_lenE (by rfl)) rfl (by rfl)) (by rfl) | (simp only [seg_len, cellsS, List.length_append, List.length_cons, List.length_nil]; done) | (simp only [seg_len, cellsS, List.length_append, List.length_cons, List.length_nil]; rfl)) (by first | rfl | exact seg_lenE (by rfl) | exact len_app rfl (seg_lenE (by rfl)) (by rfl) | exact len_app (seg_lenE (by rfl)) rfl (by rfl) | exact len_app rfl (len_app (seg_lenE (by rfl)) rfl (by rfl)) (by rfl) | (simp only [seg_len, cellsS, List.length_append, List.length_cons, List.length_nil]; done) | (simp only [seg_len, cellsS, List.length_append, List.length_cons, List.length_nil]; rfl)) (by first | rfl | exact seg_lenE (by rfl) | exact len_app rfl (seg_lenE (by rfl)) (by rfl) | exact len_app (seg_lenE (by rfl)) rfl (by rfl) | exact len_app rfl (len_app (seg_lenE (by rfl)) rfl (by rfl)) (by rfl) | (simp only [seg_len, cellsS, List.length_append, List.length_cons, List.length_nil]; done) | (simp only [seg_len, cellsS, List.length_append, List.length_cons, List.length_nil]; rfl)) rfl rfl ?_; refine fill_step ([.v (.int .u8 10)] ++ ((List.map ew ((Arr.rep 4 (0 : UInt64))).l).flatten ++ [.v (.bool false)])) [.v (.int .i64 0)] [] (by first | rfl | exact (List.append_nil _).symm | exact List.append_nil _ | exact List.append_assoc _ _ _ | exact (List.append_assoc _ _ _).symm | exact congrArg _ (List.append_nil _).symm | exact congrArg _ (List.append_nil _) | (simp; done) | (simp [cellsS]; done)) (by first | rfl | exact seg_lenE (by rfl) | exact len_app rfl (seg_lenE (by rfl)) (by rfl) | exact len_app (seg_lenE (by rfl)) rfl (by rfl) | exact len_app rfl (len_app (seg_lenE (by rfl)) rfl (by rfl)) (by rfl) | (simp only [seg_len, cellsS, List.length_append, List.length_cons, List.length_nil]; done) | (simp only [seg_len, cellsS, List.length_append, List.length_cons, List.length_nil]; rfl)) (by first | rfl | exact seg_lenE (by rfl) | exact len_app rfl (seg_lenE (by rfl)) (by rfl) | exact len_app (seg_lenE (by rfl)) rfl (by rfl) | exact len_app rfl (len_app (seg_lenE (by rfl)) rfl (by rfl)) (by rfl) | (simp only [seg_len, cellsS, List.length_append, List.length_cons, List.length_nil]; done) | (simp only [seg_len, cellsS, List.length_append, List.length_cons, List.length_nil]; rfl)) (by first | rfl | exact seg_lenE (by rfl) | exact len_app rfl (seg_lenE (by rfl)) (by rfl) | exact len_app (seg_lenE (by rfl)) rfl (by rfl) | exact len_app rfl (len_app (seg_lenE (by rfl)) rfl (by rfl)) (by rfl) | (simp only [seg_len, cellsS, List.length_append, List.length_cons, List.length_nil]; done) | (simp only [seg_len, cellsS, List.length_append, List.length_cons, List.length_nil]; rfl)) rfl rfl ?_; exact congrArg some (by first | rfl | exact (List.append_nil _).symm | exact List.append_nil _ | exact List.append_assoc _ _ _ | exact (List.append_assoc _ _ _).symm | exact congrArg _ (List.append_nil _).symm | exact congrArg _ (List.append_nil _) | (simp; done) | (simp [cellsS]; done)))) rfl rfl ?_
              refine xstoreP 0 [] ([.v (.int .u8 0)] ++ ((List.map ew ((Arr.rep 4 (0 : UInt64))).l).flatten ++ [.v (.bool false), .v (.int .i64 0)])) [] (by first | rfl | exact (List.append_nil _).symm | exact List.append_nil _ | exact List.append_assoc _ _ _ | exact (List.append_assoc _ _ _).symm | exact congrArg _ (List.append_nil _).symm | exact congrArg _ (List.append_nil _) | (simp; done) | (simp [cellsS]; done)) (by first | rfl | exact seg_lenE (by rfl) | exact len_app rfl (seg_lenE (by rfl)) (by rfl) | exact len_app (seg_lenE (by rfl)) rfl (by rfl) | exact len_app rfl (len_app (seg_lenE (by rfl)) rfl (by rfl)) (by rfl) | (simp only [seg_len, cellsS, List.length_append, List.length_cons, List.length_nil]; done) | (simp only [seg_len, cellsS, List.length_append, List.length_cons, List.length_nil]; rfl)) (by first | rfl | exact seg_lenE (by rfl) | exact len_app rfl (seg_lenE (by rfl)) (by rfl) | exact len_app (seg_lenE (by rfl)) rfl (by rfl) | exact len_app rfl (len_app (seg_lenE (by rfl)) rfl (by rfl)) (by rfl) | (simp only [seg_len, cellsS, List.length_append, List.length_cons, List.length_nil]; done) | (simp only [seg_len, cellsS, List.length_append, List.length_cons, List.length_nil]; rfl)) ShpC.h rfl rfl rfl rfl (by first | rfl | exact seg_lenE (by rfl) | exact len_app rfl (seg_lenE (by rfl)) (by rfl) | exact len_app (seg_lenE (by rfl)) rfl (by rfl) | exact len_app rfl (len_app (seg_lenE (by rfl)) rfl (by rfl)) (by rfl) | (simp only [seg_len, cellsS, List.length_append, List.length_cons, List.length_nil]; done) | (simp only [seg_len, cellsS, List.length_append, List.length_cons, List.length_nil]; rfl)) rfl ?_
              refine xreb 0 ([.v (.int .u8 10)] ++ ((List.map ew ((Arr.rep 4 (0 : UInt64))).l).flatten ++ [.v (.bool false), .v (.int .i64 ((x2 + 2)))])) rfl (by first | rfl | exact (List.append_nil _).symm | exact List.append_nil _ | exact List.append_assoc _ _ _ | exact (List.append_assoc _ _ _).symm | exact congrArg _ (List.append_nil _).symm | exact congrArg _ (List.append_nil _) | (simp; done) | (simp [cellsS]; done)) ?_
              refine xvalP (pv_assign rfl) rfl rfl ?_
              refine xnil ?_
              refine xthen ?_
              refine xretc ?_
              refine xin_ret ?_
              refine xthen_ret ?_
              replace h := h.symm
              subst h
              exact xretL (rs := [.cell 4 48, .tmp 5]) (ss := [.agg ([.v (.int .u8 (((10 : UInt8).toNat : Int)))] ++ ((List.map ew ((Arr.rep 4 (0 : UInt64))).l).flatten ++ [.v (.bool false), .v (.int .i64 ((x2 + 2)))])), .v (.int .i64 0)]) hg rfl (by refine RetL.cell 0 ShpC.h rfl rfl (part_midE (pre := []) (mid := ([.v (.int .u8 10)] ++ ((List.map ew ((Arr.rep 4 (0 : UInt64))).l).flatten ++ [.v (.bool false), .v (.int .i64 ((x2 + 2)))]))) (post := []) (by first | rfl | exact (List.append_nil _).symm | exact List.append_nil _ | exact List.append_assoc _ _ _ | exact (List.append_assoc _ _ _).symm | exact congrArg _ (List.append_nil _).symm | exact congrArg _ (List.append_nil _) | (simp; done) | (simp [cellsS]; done)) (by first | rfl | exact seg_lenE (by rfl) | exact len_app rfl (seg_lenE (by rfl)) (by rfl) | exact len_app (seg_lenE (by rfl)) rfl (by rfl) | exact len_app rfl (len_app (seg_lenE (by rfl)) rfl (by rfl)) (by rfl) | (simp only [seg_len, cellsS, List.length_append, List.length_cons, List.length_nil]; done) | (simp only [seg_len, cellsS, List.length_append, List.length_cons, List.length_nil]; rfl)) (by first | rfl | exact seg_lenE (by rfl) | exact len_app rfl (seg_lenE (by rfl)) (by rfl) | exact len_app (seg_lenE (by rfl)) rfl (by rfl) | exact len_app rfl (len_app (seg_lenE (by rfl)) rfl (by rfl)) (by rfl) | (simp only [seg_len, cellsS, List.length_append, List.length_cons, List.length_nil]; done) | (simp only [seg_len, cellsS, List.length_append, List.length_cons, List.length_nil]; rfl)) (part_all (by first | rfl | exact seg_lenE (by rfl) | exact len_app rfl (seg_lenE (by rfl)) (by rfl) | exact len_app (seg_lenE (by rfl)) rfl (by rfl) | exact len_app rfl (len_app (seg_lenE (by rfl)) rfl (by rfl)) (by rfl) | (simp only [seg_len, cellsS, List.length_append, List.length_cons, List.length_nil]; done) | (simp only [seg_len, cellsS, List.length_append, List.length_cons, List.length_nil]; rfl)))) (len_midE (pre := []) (mid := ([.v (.int .u8 10)] ++ ((List.map ew ((Arr.rep 4 (0 : UInt64))).l).flatten ++ [.v (.bool false), .v (.int .i64 ((x2 + 2)))]))) (post := []) (by first | rfl | exact (List.append_nil _).symm | exact List.append_nil _ | exact List.append_assoc _ _ _ | exact (List.append_assoc _ _ _).symm | exact congrArg _ (List.append_nil _).symm | exact congrArg _ (List.append_nil _) | (simp; done) | (simp [cellsS]; done)) (by first | rfl | exact seg_lenE (by rfl) | exact len_app rfl (seg_lenE (by rfl)) (by rfl) | exact len_app (seg_lenE (by rfl)) rfl (by rfl) | exact len_app rfl (len_app (seg_lenE (by rfl)) rfl (by rfl)) (by rfl) | (simp only [seg_len, cellsS, List.length_append, List.length_cons, List.length_nil]; done) | (simp only [seg_len, cellsS, List.length_append, List.length_cons, List.length_nil]; rfl)) (by first | rfl | exact seg_lenE (by rfl) | exact len_app rfl (seg_lenE (by rfl)) (by rfl) | exact len_app (seg_lenE (by rfl)) rfl (by rfl) | exact len_app rfl (len_app (seg_lenE (by rfl)) rfl (by rfl)) (by rfl) | (simp only [seg_len, cellsS, List.length_append, List.length_cons, List.length_nil]; done) | (simp only [seg_len, cellsS, List.length_append, List.length_cons, List.length_nil]; rfl))) (by first | with_reducible exact Wk.refl _ | exact Wk.nil_own _ | exact Wk.nil_pl _ | with_reducible exact Wk.tok _ _ _ | exact Wk.tok _ _ _ | exact .eq rfl) ?_; refine RetL.tmp rfl (.refl _) ?_; exact RetL.nil) (SubM.of (.nil _) (.nil _)) ⟨rfl, rfl, rfl⟩
            · replace h := h.2 hp92
              refine xcondF' (b_f hp92) rfl ?_
              refine xskipc ?_
              refine xin_normal ?_
              refine xthen ?_
              refine xseq ?_
              refine xregion ?_
              refine xvalP (pv_move rfl) rfl rfl ?_
              refine xvalP (pv_move rfl) rfl rfl ?_
              obtain ⟨h95a, h⟩ := h
              obtain ⟨y94, h95b, h⟩ := h
              refine xvalP (pv_indexAddrM h95a h95b UndC.h ShpC.h rfl rfl) rfl rfl ?_
              refine xval (qv_load ShpC.h rfl rfl rfl) rfl rfl ?_
              refine xvalP (pv_move rfl) rfl rfl ?_
              obtain ⟨h96, h⟩ := h
              refine xvalP (pv_addI h96 rfl rfl) rfl rfl ?_
              refine xvalP (pv_buildC (cs := ([.v (.int .u8 ((y94.toNat : Int)))] ++ ((List.map ew ((Arr.rep 4 (0 : UInt64))).l).flatten ++ [.v (.bool false), .v (.int .i64 ((x2 + 1)))]))) StrC.h rfl (by refine fill_step [] [.v (.int .u8 0)] (((List.map ew ((Arr.rep 4 (0 : UInt64))).l).flatten ++ [.v (.bool false), .v (.int .i64 0)])) (by first | rfl | exact (List.append_nil _).symm | exact List.append_nil _ | exact List.append_assoc _ _ _ | exact (List.append_assoc _ _ _).symm | exact congrArg _ (List.append_nil _).symm | exact congrArg _ (List.append_nil _) | (simp; done) | (simp [cellsS]; done)) (by first | rfl | exact seg_lenE (by rfl) | exact len_app rfl (seg_lenE (by rfl)) (by rfl) | exact len_app (seg_lenE (by rfl)) rfl (by rfl) | exact len_app rfl (len_app (seg_lenE (by rfl)) rfl (by rfl)) (by rfl) | (simp only [seg_len, cellsS, List.length_append, List.length_cons, List.length_nil]; done) | (simp only [seg_len, cellsS, List.length_append, List.length_cons, List.length_nil]; rfl)) (by first | rfl | exact seg_lenE (by rfl) | exact len_app rfl (seg_lenE (by rfl)) (by rfl) | exact len_app (seg_lenE (by rfl)) rfl (by rfl) | exact len_app rfl (len_app (seg_lenE (by rfl)) rfl (by rfl)) (by rfl) | (simp only [seg_len, cellsS, List.length_append, List.length_cons, List.length_nil]; done) | (simp only [seg_len, cellsS, List.length_append, List.length_cons, List.length_nil]; rfl)) (by first | rfl | exact seg_lenE (by rfl) | exact len_app rfl (seg_lenE (by rfl)) (by rfl) | exact len_app (seg_lenE (by rfl)) rfl (by rfl) | exact len_app rfl (len_app (seg_lenE (by rfl)) rfl (by rfl)) (by rfl) | (simp only [seg_len, cellsS, List.length_append, List.length_cons, List.length_nil]; done) | (simp only [seg_len, cellsS, List.length_append, List.length_cons, List.length_nil]; rfl)) rfl rfl ?_; refine fill_step ([.v (.int .u8 ((y94.toNat : Int)))] ++ ((List.map ew ((Arr.rep 4 (0 : UInt64))).l).flatten ++ [.v (.bool false)])) [.v (.int .i64 0)] [] (by first | rfl | exact (List.append_nil _).symm | exact List.append_nil _ | exact List.append_assoc _ _ _ | exact (List.append_assoc _ _ _).symm | exact congrArg _ (List.append_nil _).symm | exact congrArg _ (List.append_nil _) | (simp; done) | (simp [cellsS]; done)) (by first | rfl | exact seg_lenE (by rfl) | exact len_app rfl (seg_lenE (by rfl)) (by rfl) | exact len_app (seg_lenE (by rfl)) rfl (by rfl) | exact len_app rfl (len_app (seg_lenE (by rfl)) rfl (by rfl)) (by rfl) | (simp only [seg_len, cellsS, List.length_append, List.length_cons, List.length_nil]; done) | (simp only [seg_len, cellsS, List.length_append, List.length_cons, List.length_nil]; rfl)) (by first | rfl | exact seg_lenE (by rfl) | exact len_app rfl (seg_lenE (by rfl)) (by rfl) | exact len_app (seg_lenE (by rfl)) rfl (by rfl) | exact len_app rfl (len_app (seg_lenE (by rfl)) rfl (by rfl)) (by rfl) | (simp only [seg_len, cellsS, List.length_append, List.length_cons, List.length_nil]; done) | (simp only [seg_len, cellsS, List.length_append, List.length_cons, List.length_nil]; rfl)) (by first | rfl | exact seg_lenE (by rfl) | exact len_app rfl (seg_lenE (by rfl)) (by rfl) | exact len_app (seg_lenE (by rfl)) rfl (by rfl) | exact len_app rfl (len_app (seg_lenE (by rfl)) rfl (by rfl)) (by rfl) | (simp only [seg_len, cellsS, List.length_append, List.length_cons, List.length_nil]; done) | (simp only [seg_len, cellsS, List.length_append, List.length_cons, List.length_nil]; rfl)) rfl rfl ?_; exact congrArg some (by first | rfl | exact (List.append_nil _).symm | exact List.append_nil _ | exact List.append_assoc _ _ _ | exact (List.append_assoc _ _ _).symm | exact congrArg _ (List.append_nil _).symm | exact congrArg _ (List.append_nil _) | (simp; done) | (simp [cellsS]; done)))) rfl rfl ?_
              refine xstoreP 0 [] ([.v (.int .u8 0)] ++ ((List.map ew ((Arr.rep 4 (0 : UInt64))).l).flatten ++ [.v (.bool false), .v (.int .i64 0)])) [] (by first | rfl | exact (List.append_nil _).symm | exact List.append_nil _ | exact List.append_assoc _ _ _ | exact (List.append_assoc _ _ _).symm | exact congrArg _ (List.append_nil _).symm | exact congrArg _ (List.append_nil _) | (simp; done) | (simp [cellsS]; done)) (by first | rfl | exact seg_lenE (by rfl) | exact len_app rfl (seg_lenE (by rfl)) (by rfl) | exact len_app (seg_lenE (by rfl)) rfl (by rfl) | exact len_app rfl (len_app (seg_lenE (by rfl)) rfl (by rfl)) (by rfl) | (simp only [seg_len, cellsS, List.length_append, List.length_cons, List.length_nil]; done) | (simp only [seg_len, cellsS, List.length_append, List.length_cons, List.length_nil]; rfl)) (by first | rfl | exact seg_lenE (by rfl) | exact len_app rfl (seg_lenE (by rfl)) (by rfl) | exact len_app (seg_lenE (by rfl)) rfl (by rfl) | exact len_app rfl (len_app (seg_lenE (by rfl)) rfl (by rfl)) (by rfl) | (simp only [seg_len, cellsS, List.length_append, List.length_cons, List.length_nil]; done) | (simp only [seg_len, cellsS, List.length_append, List.length_cons, List.length_nil]; rfl)) ShpC.h rfl rfl rfl rfl (by first | rfl | exact seg_lenE (by rfl) | exact len_app rfl (seg_lenE (by rfl)) (by rfl) | exact len_app (seg_lenE (by rfl)) rfl (by rfl) | exact len_app rfl (len_app (seg_lenE (by rfl)) rfl (by rfl)) (by rfl) | (simp only [seg_len, cellsS, List.length_append, List.length_cons, List.length_nil]; done) | (simp only [seg_len, cellsS, List.length_append, List.length_cons, List.length_nil]; rfl)) rfl ?_
              refine xreb 0 ([.v (.int .u8 ((y94.toNat : Int)))] ++ ((List.map ew ((Arr.rep 4 (0 : UInt64))).l).flatten ++ [.v (.bool false), .v (.int .i64 ((x2 + 1)))])) rfl (by first | rfl | exact (List.append_nil _).symm | exact List.append_nil _ | exact List.append_assoc _ _ _ | exact (List.append_assoc _ _ _).symm | exact congrArg _ (List.append_nil _).symm | exact congrArg _ (List.append_nil _) | (simp; done) | (simp [cellsS]; done)) ?_
              refine xvalP (pv_assign rfl) rfl rfl ?_
              refine xnil ?_
              refine xthen ?_
              refine xretc ?_
              replace h := h.symm
              subst h
              exact xretL (rs := [.cell 4 48, .tmp 5]) (ss := [.agg ([.v (.int .u8 ((y94.toNat : Int)))] ++ ((List.map ew ((Arr.rep 4 (0 : UInt64))).l).flatten ++ [.v (.bool false), .v (.int .i64 ((x2 + 1)))])), .v (.int .i64 0)]) hg rfl (by refine RetL.cell 0 ShpC.h rfl rfl (part_midE (pre := []) (mid := ([.v (.int .u8 ((y94.toNat : Int)))] ++ ((List.map ew ((Arr.rep 4 (0 : UInt64))).l).flatten ++ [.v (.bool false), .v (.int .i64 ((x2 + 1)))]))) (post := []) (by first | rfl | exact (List.append_nil _).symm | exact List.append_nil _ | exact List.append_assoc _ _ _ | exact (List.append_assoc _ _ _).symm | exact congrArg _ (List.append_nil _).symm | exact congrArg _ (List.append_nil _) | (simp; done) | (simp [cellsS]; done)) (by first | rfl | exact seg_lenE (by rfl) | exact len_app rfl (seg_lenE (by rfl)) (by rfl) | exact len_app (seg_lenE (by rfl)) rfl (by rfl) | exact len_app rfl (len_app (seg_lenE (by rfl)) rfl (by rfl)) (by rfl) | (simp only [seg_len, cellsS, List.length_append, List.length_cons, List.length_nil]; done) | (simp only [seg_len, cellsS, List.length_append, List.length_cons, List.length_nil]; rfl)) (by first | rfl | exact seg_lenE (by rfl) | exact len_app rfl (seg_lenE (by rfl)) (by rfl) | exact len_app (seg_lenE (by rfl)) rfl (by rfl) | exact len_app rfl (len_app (seg_lenE (by rfl)) rfl (by rfl)) (by rfl) | (simp only [seg_len, cellsS, List.length_append, List.length_cons, List.length_nil]; done) | (simp only [seg_len, cellsS, List.length_append, List.length_cons, List.length_nil]; rfl)) (part_all (by first | rfl | exact seg_lenE (by rfl) | exact len_app rfl (seg_lenE (by rfl)) (by rfl) | exact len_app (seg_lenE (by rfl)) rfl (by rfl) | exact len_app rfl (len_app (seg_lenE (by rfl)) rfl (by rfl)) (by rfl) | (simp only [seg_len, cellsS, List.length_append, List.length_cons, List.length_nil]; done) | (simp only [seg_len, cellsS, List.length_append, List.length_cons, List.length_nil]; rfl)))) (len_midE (pre := []) (mid := ([.v (.int .u8 ((y94.toNat : Int)))] ++ ((List.map ew ((Arr.rep 4 (0 : UInt64))).l).flatten ++ [.v (.bool false), .v (.int .i64 ((x2 + 1)))]))) (post := []) (by first | rfl | exact (List.append_nil _).symm | exact List.append_nil _ | exact List.append_assoc _ _ _ | exact (List.append_assoc _ _ _).symm | exact congrArg _ (List.append_nil _).symm | exact congrArg _ (List.append_nil _) | (simp; done) | (simp [cellsS]; done)) (by first | rfl | exact seg_lenE (by rfl) | exact len_app rfl (seg_lenE (by rfl)) (by rfl) | exact len_app (seg_lenE (by rfl)) rfl (by rfl) | exact len_app rfl (len_app (seg_lenE (by rfl)) rfl (by rfl)) (by rfl) | (simp only [seg_len, cellsS, List.length_append, List.length_cons, List.length_nil]; done) | (simp only [seg_len, cellsS, List.length_append, List.length_cons, List.length_nil]; rfl)) (by first | rfl | exact seg_lenE (by rfl) | exact len_app rfl (seg_lenE (by rfl)) (by rfl) | exact len_app (seg_lenE (by rfl)) rfl (by rfl) | exact len_app rfl (len_app (seg_lenE (by rfl)) rfl (by rfl)) (by rfl) | (simp only [seg_len, cellsS, List.length_append, List.length_cons, List.length_nil]; done) | (simp only [seg_len, cellsS, List.length_append, List.length_cons, List.length_nil]; rfl))) (by first | with_reducible exact Wk.refl _ | exact Wk.nil_own _ | exact Wk.nil_pl _ | with_reducible exact Wk.tok _ _ _ | exact Wk.tok _ _ _ | exact .eq rfl) ?_; refine RetL.tmp rfl (.refl _) ?_; exact RetL.nil) (SubM.of (.nil _) (.nil _)) ⟨rfl, rfl, rfl⟩
/-- brack.isDash -/
def brack_isDash_j1 (x18 : Bool) (r : Bool) : Prop :=
  r = x18
def brack_isDash_R (bv1 : List UInt8) (atv2 : Int) (r : Bool) : Prop :=
  ((atv2 < (bv1.length : Int) → 0 ≤ (atv2 : Int) ∧ ∃ y22 : UInt8, bv1[(atv2 : Int).toNat]? = some y22 ∧ (((y22.toNat : Int) = 45 → InR (atv2 + 1) ∧ (((bv1.length : Int) ≤ (atv2 + 1) → brack_isDash_j1 true r) ∧ (¬ ((bv1.length : Int) ≤ (atv2 + 1)) → InR (atv2 + 1) ∧ 0 ≤ ((atv2 + 1) : Int) ∧ ∃ y31 : UInt8, bv1[((atv2 + 1) : Int).toNat]? = some y31 ∧ brack_isDash_j1 (!(decide ((y31.toNat : Int) = 93))) r))) ∧ (¬ ((y22.toNat : Int) = 45) → brack_isDash_j1 false r))) ∧ (¬ (atv2 < (bv1.length : Int)) → brack_isDash_j1 false r))
def brack_isDash_j1_ev (fuel : Nat) (x18 : Bool) : Option (Bool) :=
  some x18
theorem brack_isDash_j1_ok {fuel : Nat} {x18 : Bool} {r : Bool} (h : brack_isDash_j1_ev fuel x18 = some r) : brack_isDash_j1 x18 r := by
  unfold brack_isDash_j1_ev at h
  unfold brack_isDash_j1
  exact (Option.some.inj h).symm
def brack_isDash_ev (fuel : Nat) (bv1 : List UInt8) (atv2 : Int) : Option (Bool) :=
  (if atv2 < (bv1.length : Int) then (if 0 ≤ (atv2 : Int) then ((bv1[(atv2 : Int).toNat]?).bind fun y22 => (if (y22.toNat : Int) = 45 then (if InR (atv2 + 1) then (if (bv1.length : Int) ≤ (atv2 + 1) then brack_isDash_j1_ev fuel true else (if InR (atv2 + 1) then (if 0 ≤ ((atv2 + 1) : Int) then ((bv1[((atv2 + 1) : Int).toNat]?).bind fun y31 => brack_isDash_j1_ev fuel (!(decide ((y31.toNat : Int) = 93)))) else none) else none)) else none) else brack_isDash_j1_ev fuel false)) else none) else brack_isDash_j1_ev fuel false)
theorem brack_isDash_ok {fuel : Nat} {bv1 : List UInt8} {atv2 : Int} {r : Bool} (h : brack_isDash_ev fuel bv1 atv2 = some r) : brack_isDash_R bv1 atv2 r := by
  unfold brack_isDash_ev at h
  unfold brack_isDash_R
  refine ⟨fun g103 => ?_, fun g103 => ?_⟩
  · rw [if_pos g103] at h
    obtain ⟨g104, h⟩ := if_ok h
    refine ⟨g104, ?_⟩
    obtain ⟨q105, g105, h⟩ := bind_ok h
    refine ⟨q105, g105, ?_⟩
    refine ⟨fun g106 => ?_, fun g106 => ?_⟩
    · rw [if_pos g106] at h
      obtain ⟨g107, h⟩ := if_ok h
      refine ⟨g107, ?_⟩
      refine ⟨fun g108 => ?_, fun g108 => ?_⟩
      · rw [if_pos g108] at h
        exact brack_isDash_j1_ok h
      · rw [if_neg g108] at h
        obtain ⟨g109, h⟩ := if_ok h
        refine ⟨g109, ?_⟩
        obtain ⟨g110, h⟩ := if_ok h
        refine ⟨g110, ?_⟩
        obtain ⟨q111, g111, h⟩ := bind_ok h
        refine ⟨q111, g111, ?_⟩
        exact brack_isDash_j1_ok h
    · rw [if_neg g106] at h
      exact brack_isDash_j1_ok h
  · rw [if_neg g103] at h
    exact brack_isDash_j1_ok h
set_option maxHeartbeats 4000000 in
theorem brack_isDash_con (bv1 : List UInt8) (atv2 : Int) (r : Bool) (h : brack_isDash_R bv1 atv2 r) : Con Try.prog 23 [.sl 1 none (List.map eb bv1), .v (.int .i64 atv2)] [] [] (Ret (.v (.bool r))) := by
  refine xenter Try.func23 rfl rfl fun g hg => ?_
  simp only [Try.ntmps23, slots]
  refine xseq ?_
  refine xregion ?_
  refine xvalP (pv_assign rfl) rfl rfl ?_
  refine xnil ?_
  refine xthen ?_
  refine xseqM (fun σ => ∃ (x18 : Bool), brack_isDash_j1 x18 r ∧ σ = ⟨[(4, .v (.bool x18))], [], []⟩) ?_ ?_
  · refine xregion ?_
    refine xvalP (pv_move rfl) rfl rfl ?_
    refine xvalP (pv_move rfl) rfl rfl ?_
    refine xvalP (pv_lenM UndC.h rfl) rfl rfl ?_
    refine xvalP (pv_bin2 rfl rfl rfl) rfl rfl ?_
    refine xvalP (pv_move rfl) rfl rfl ?_
    by_cases hp21 : atv2 < (bv1.length : Int)
    · replace h := h.1 hp21
      refine xsetB 9 (decide_eq_true hp21) rfl ?_
      refine xvalP (pv_move rfl) rfl rfl ?_
      refine xvalP (pv_move rfl) rfl rfl ?_
      obtain ⟨h23a, h⟩ := h
      obtain ⟨y22, h23b, h⟩ := h
      refine xvalP (pv_indexAddrM h23a h23b UndC.h ShpC.h rfl rfl) rfl rfl ?_
      refine xval (qv_load ShpC.h rfl rfl rfl) rfl rfl ?_
      refine xvalP (pv_bin2 rfl rfl rfl) rfl rfl ?_
      refine xvalP (pv_pick rfl rfl) rfl rfl ?_
      refine xvalP (pv_move rfl) rfl rfl ?_
      by_cases hp25 : (y22.toNat : Int) = 45
      · replace h := h.1 hp25
        refine xsetB 16 (decide_eq_true hp25) rfl ?_
        refine xvalP (pv_move rfl) rfl rfl ?_
        obtain ⟨h26, h⟩ := h
        refine xvalP (pv_addI h26 rfl rfl) rfl rfl ?_
        refine xvalP (pv_move rfl) rfl rfl ?_
        refine xvalP (pv_lenM UndC.h rfl) rfl rfl ?_
        refine xvalP (pv_bin2 rfl rfl rfl) rfl rfl ?_
        refine xvalP (pv_move rfl) rfl rfl ?_
        by_cases hp29 : (bv1.length : Int) ≤ (atv2 + 1)
        · replace h := h.1 hp29
          refine xsetB 22 (decide_eq_true hp29) rfl ?_
          refine xskip rfl rfl ?_
          refine xskip rfl rfl ?_
          refine xskip rfl rfl ?_
          refine xskip rfl rfl ?_
          refine xskip rfl rfl ?_
          refine xskip rfl rfl ?_
          refine xvalP (pv_pick rfl rfl) rfl rfl ?_
          refine xvalP (pv_pick rfl rfl) rfl rfl ?_
          refine xvalP (pv_assign rfl) rfl rfl ?_
          refine xnil ?_
          exact xmeet ⟨true, h, rfl⟩ ⟨(.cons rfl (.refl _) (.nil _)), (SubM.of (.nil _) (.nil _))⟩
        · replace h := h.2 hp29
          refine xsetB 22 (decide_eq_false hp29) rfl ?_
          refine xvalP (pv_move rfl) rfl rfl ?_
          refine xvalP (pv_move rfl) rfl rfl ?_
          obtain ⟨h30, h⟩ := h
          refine xvalP (pv_addI h30 rfl rfl) rfl rfl ?_
          obtain ⟨h32a, h⟩ := h
          obtain ⟨y31, h32b, h⟩ := h
          refine xvalP (pv_indexAddrM h32a h32b UndC.h ShpC.h rfl rfl) rfl rfl ?_
          refine xval (qv_load ShpC.h rfl rfl rfl) rfl rfl ?_
          refine xvalP (pv_bin2 rfl rfl rfl) rfl rfl ?_
          refine xvalP (pv_pick rfl rfl) rfl rfl ?_
          refine xvalP (pv_pick rfl rfl) rfl rfl ?_
          refine xvalP (pv_assign rfl) rfl rfl ?_
          refine xnil ?_
          exact xmeet ⟨(!(decide ((y31.toNat : Int) = 93))), h, rfl⟩ ⟨(.cons rfl (.refl _) (.nil _)), (SubM.of (.nil _) (.nil _))⟩
      · replace h := h.2 hp25
        refine xsetB 16 (decide_eq_false hp25) rfl ?_
        refine xskip rfl rfl ?_
        refine xskip rfl rfl ?_
        refine xskip rfl rfl ?_
        refine xskip rfl rfl ?_
        refine xskip rfl rfl ?_
        refine xskip rfl rfl ?_
        refine xskip rfl rfl ?_
        refine xskip rfl rfl ?_
        refine xskip rfl rfl ?_
        refine xskip rfl rfl ?_
        refine xskip rfl rfl ?_
        refine xskip rfl rfl ?_
        refine xskip rfl rfl ?_
        refine xvalP (pv_pick rfl rfl) rfl rfl ?_
        refine xvalP (pv_assign rfl) rfl rfl ?_
        refine xnil ?_
        exact xmeet ⟨false, h, rfl⟩ ⟨(.cons rfl (.refl _) (.nil _)), (SubM.of (.nil _) (.nil _))⟩
    · replace h := h.2 hp21
      refine xsetB 9 (decide_eq_false hp21) rfl ?_
      refine xskip rfl rfl ?_
      refine xskip rfl rfl ?_
      refine xskip rfl rfl ?_
      refine xskip rfl rfl ?_
      refine xskip rfl rfl ?_
      refine xvalP (pv_pick rfl rfl) rfl rfl ?_
      refine xvalP (pv_move rfl) rfl rfl ?_
      refine xskip rfl rfl ?_
      refine xskip rfl rfl ?_
      refine xskip rfl rfl ?_
      refine xskip rfl rfl ?_
      refine xskip rfl rfl ?_
      refine xskip rfl rfl ?_
      refine xskip rfl rfl ?_
      refine xskip rfl rfl ?_
      refine xskip rfl rfl ?_
      refine xskip rfl rfl ?_
      refine xskip rfl rfl ?_
      refine xskip rfl rfl ?_
      refine xskip rfl rfl ?_
      refine xvalP (pv_pick rfl rfl) rfl rfl ?_
      refine xvalP (pv_assign rfl) rfl rfl ?_
      refine xnil ?_
      exact xmeet ⟨false, h, rfl⟩ ⟨(.cons rfl (.refl _) (.nil _)), (SubM.of (.nil _) (.nil _))⟩
  · clear h
    rintro _ ⟨x18, h, rfl⟩
    refine xretc ?_
    replace h := h.symm
    subst h
    exact xret1 hg rfl rfl (.refl _) (SubM.of (.nil _) (.nil _)) ⟨rfl, rfl, rfl⟩
/-- class.Of -/
def class_Of_l1 (l1 : List UInt8) (ag1 : (Int × (Arr 4 (UInt64))) → Prop) (x38 : Int) (f39 : Arr 4 (UInt64)) (r : (Arr 4 (UInt64))) : Prop :=
  ((x38 < (l1.length : Int) → 0 ≤ (x38 : Int) ∧ ∃ y51 : UInt8, l1[(x38 : Int).toNat]? = some y51 ∧ ∃ y54 : (Arr 4 (UInt64)), class_with_R f39 y51 y54 ∧ InR (x38 + 1) ∧ ag1 ((x38 + 1), y54)) ∧ (¬ (x38 < (l1.length : Int)) → r = f39))
def class_Of_R (l1 : List UInt8) (r : (Arr 4 (UInt64))) : Prop :=
  LoopR (fun ag1 s => class_Of_l1 l1 ag1 s.1 s.2 r) (0, (Arr.rep 4 (0 : UInt64)))
def class_Of_l1_ev (fuel : Nat) (l1 : List UInt8) (ag1e : (Int × (Arr 4 (UInt64))) → Option ((Arr 4 (UInt64)))) (x38 : Int) (f39 : Arr 4 (UInt64)) : Option ((Arr 4 (UInt64))) :=
  (if x38 < (l1.length : Int) then (if 0 ≤ (x38 : Int) then ((l1[(x38 : Int).toNat]?).bind fun y51 => ((class_with_ev fuel f39 y51).bind fun y54 => (if InR (x38 + 1) then ag1e ((x38 + 1), y54) else none))) else none) else some f39)
theorem class_Of_l1_ok {fuel : Nat} {l1 : List UInt8} {ag1e : (Int × (Arr 4 (UInt64))) → Option ((Arr 4 (UInt64)))} {ag1 : (Int × (Arr 4 (UInt64))) → Prop} {x38 : Int} {f39 : Arr 4 (UInt64)} {r : (Arr 4 (UInt64))} (hagag1 : ∀ s, ag1e s = some r → ag1 s) (h : class_Of_l1_ev fuel l1 ag1e x38 f39 = some r) : class_Of_l1 l1 ag1 x38 f39 r := by
  unfold class_Of_l1_ev at h
  unfold class_Of_l1
  refine ⟨fun g112 => ?_, fun g112 => ?_⟩
  · rw [if_pos g112] at h
    obtain ⟨g113, h⟩ := if_ok h
    refine ⟨g113, ?_⟩
    obtain ⟨q114, g114, h⟩ := bind_ok h
    refine ⟨q114, g114, ?_⟩
    obtain ⟨q115, g115, h⟩ := bind_ok h
    refine ⟨q115, class_with_ok g115, ?_⟩
    obtain ⟨g116, h⟩ := if_ok h
    refine ⟨g116, ?_⟩
    exact hagag1 _ h
  · rw [if_neg g112] at h
    exact (Option.some.inj h).symm
def class_Of_ev (fuel : Nat) (l1 : List UInt8) : Option ((Arr 4 (UInt64))) :=
  (loopE (fun ag1e s => class_Of_l1_ev fuel l1 ag1e s.1 s.2) fuel (0, (Arr.rep 4 (0 : UInt64))))
theorem class_Of_ok {fuel : Nat} {l1 : List UInt8} {r : (Arr 4 (UInt64))} (h : class_Of_ev fuel l1 = some r) : class_Of_R l1 r := by
  unfold class_Of_ev at h
  unfold class_Of_R
  refine loopE_ok ?_ h
  intro ae ag s hag h
  exact class_Of_l1_ok hag h
set_option maxHeartbeats 4000000 in
theorem class_Of_con (l1 : List UInt8) (r : (Arr 4 (UInt64))) (h : class_Of_R l1 r) : Con Try.prog 15 [.sl 1 none (List.map eb l1)] [] [] (Ret (.agg ((List.map ew r.l).flatten))) := by
  refine xenter Try.func15 rfl rfl fun g hg => ?_
  simp only [Try.ntmps15, slots]
  refine xseq ?_
  refine xregion ?_
  refine xalloc InfC.h rfl rfl fun b2 => ?_
  refine xreb 0 ((List.map ew ((Arr.rep 4 (0 : UInt64))).l).flatten) rfl rfl ?_
  refine xnil ?_
  refine xthen ?_
  refine xseq ?_
  refine xregion ?_
  refine xalloc InfC.h rfl rfl fun b3 => ?_
  refine xreb 0 ((List.map ew ((Arr.rep 4 (0 : UInt64))).l).flatten) rfl rfl ?_
  refine xnil ?_
  refine xthen ?_
  refine xseq ?_
  refine xseq ?_
  refine xregion ?_
  refine xvalP (pv_move rfl) rfl rfl ?_
  refine xvalP (pv_lenM UndC.h rfl) rfl rfl ?_
  refine xvalP (pv_move rfl) rfl rfl ?_
  refine xnil ?_
  refine xthen ?_
  refine xblock ?_
  obtain ⟨Inv, ⟨m0, hI⟩, hS⟩ := h
  refine xloop (fun σ m => ∃ (x38 : Int), ∃ (f39 : Arr 4 (UInt64)), Inv (x38, f39) m ∧ σ = ⟨[(2, .v (.pointer (some ⟨b2, 0, none⟩))), (3, .v (.pointer (some ⟨b3, 0, none⟩))), (6, .sl 1 none (List.map eb l1)), (7, .v (.int .i64 ((l1.length : Int)))), (8, .v (.int .i64 x38))], [⟨b3, 26, ((List.map ew f39.l).flatten)⟩, ⟨b2, 26, ((List.map ew ((Arr.rep 4 (0 : UInt64))).l).flatten)⟩], []⟩) ⟨0, (Arr.rep 4 (0 : UInt64)), hI, rfl⟩ ⟨(.cons rfl (.refl _) (.cons rfl (.refl _) (.cons rfl (.refl _) (.cons rfl (.refl _) (.cons rfl (.refl _) (.nil _)))))), (SubM.of (.keep rfl rfl (.refl _) (.keep rfl rfl (.refl _) (.nil _))) (.nil _))⟩ ?_
  rintro _ m ⟨x38, f39, hI, rfl⟩
  obtain ⟨ag1, hag1, h⟩ : ∃ ag, (∀ s', ag s' → ∃ m', m' < m ∧ Inv s' m') ∧ class_Of_l1 l1 ag x38 f39 r := ⟨_, fun _ h => h, hS (x38, f39) _ hI⟩
  clear hS hI
  refine xseq ?_
  refine xregion ?_
  refine xvalP (pv_bin2 rfl rfl rfl) rfl rfl ?_
  refine xnil ?_
  refine xthen ?_
  refine xseq ?_
  by_cases hp50 : x38 < (l1.length : Int)
  · replace h := h.1 hp50
    refine xcondT' (decide_eq_true hp50) rfl ?_
    refine xskipc ?_
    refine xthen ?_
    refine xseq ?_
    refine xblock ?_
    refine xseq ?_
    refine xregion ?_
    obtain ⟨h52a, h⟩ := h
    obtain ⟨y51, h52b, h⟩ := h
    refine xvalP (pv_indexAddrM h52a h52b UndC.h ShpC.h rfl rfl) rfl rfl ?_
    refine xval (qv_load ShpC.h rfl rfl rfl) rfl rfl ?_
    refine xvalP (pv_assign rfl) rfl rfl ?_
    refine xnil ?_
    refine xthen ?_
    refine xregion ?_
    refine xval (qv_loadP 0 [] ((List.map ew f39.l).flatten) [] (by first | rfl | exact (List.append_nil _).symm | exact List.append_nil _ | exact List.append_assoc _ _ _ | exact (List.append_assoc _ _ _).symm | exact congrArg _ (List.append_nil _).symm | exact congrArg _ (List.append_nil _) | (simp; done) | (simp [cellsS]; done)) (by first | rfl | exact seg_lenE (by rfl) | exact len_app rfl (seg_lenE (by rfl)) (by rfl) | exact len_app (seg_lenE (by rfl)) rfl (by rfl) | exact len_app rfl (len_app (seg_lenE (by rfl)) rfl (by rfl)) (by rfl) | (simp only [seg_len, cellsS, List.length_append, List.length_cons, List.length_nil]; done) | (simp only [seg_len, cellsS, List.length_append, List.length_cons, List.length_nil]; rfl)) (by first | rfl | exact seg_lenE (by rfl) | exact len_app rfl (seg_lenE (by rfl)) (by rfl) | exact len_app (seg_lenE (by rfl)) rfl (by rfl) | exact len_app rfl (len_app (seg_lenE (by rfl)) rfl (by rfl)) (by rfl) | (simp only [seg_len, cellsS, List.length_append, List.length_cons, List.length_nil]; done) | (simp only [seg_len, cellsS, List.length_append, List.length_cons, List.length_nil]; rfl)) (part_all (seg_lenE (by rfl))) ShpC.h rfl rfl) rfl rfl ?_
    refine xvalP (pv_move rfl) rfl rfl ?_
    obtain ⟨y54, h53, h⟩ := h
    refine xcall0 (class_with_con f39 y51 _ h53) Try.func26 (by kernel_rfl) rfl (.cons rfl (.refl _) (.cons rfl (.refl _) .nil)) rfl rfl ?_
    refine xstoreP 0 [] ((List.map ew f39.l).flatten) [] (by first | rfl | exact (List.append_nil _).symm | exact List.append_nil _ | exact List.append_assoc _ _ _ | exact (List.append_assoc _ _ _).symm | exact congrArg _ (List.append_nil _).symm | exact congrArg _ (List.append_nil _) | (simp; done) | (simp [cellsS]; done)) (by first | rfl | exact seg_lenE (by rfl) | exact len_app rfl (seg_lenE (by rfl)) (by rfl) | exact len_app (seg_lenE (by rfl)) rfl (by rfl) | exact len_app rfl (len_app (seg_lenE (by rfl)) rfl (by rfl)) (by rfl) | (simp only [seg_len, cellsS, List.length_append, List.length_cons, List.length_nil]; done) | (simp only [seg_len, cellsS, List.length_append, List.length_cons, List.length_nil]; rfl)) (by first | rfl | exact seg_lenE (by rfl) | exact len_app rfl (seg_lenE (by rfl)) (by rfl) | exact len_app (seg_lenE (by rfl)) rfl (by rfl) | exact len_app rfl (len_app (seg_lenE (by rfl)) rfl (by rfl)) (by rfl) | (simp only [seg_len, cellsS, List.length_append, List.length_cons, List.length_nil]; done) | (simp only [seg_len, cellsS, List.length_append, List.length_cons, List.length_nil]; rfl)) ShpC.h rfl rfl rfl rfl (by first | rfl | exact seg_lenE (by rfl) | exact len_app rfl (seg_lenE (by rfl)) (by rfl) | exact len_app (seg_lenE (by rfl)) rfl (by rfl) | exact len_app rfl (len_app (seg_lenE (by rfl)) rfl (by rfl)) (by rfl) | (simp only [seg_len, cellsS, List.length_append, List.length_cons, List.length_nil]; done) | (simp only [seg_len, cellsS, List.length_append, List.length_cons, List.length_nil]; rfl)) rfl ?_
    refine xreb 0 ((List.map ew y54.l).flatten) rfl (by first | rfl | exact (List.append_nil _).symm | exact List.append_nil _ | exact List.append_assoc _ _ _ | exact (List.append_assoc _ _ _).symm | exact congrArg _ (List.append_nil _).symm | exact congrArg _ (List.append_nil _) | (simp; done) | (simp [cellsS]; done)) ?_
    refine xnil ?_
    refine xin_normal ?_
    refine xthen ?_
    refine xregion ?_
    obtain ⟨h55, h⟩ := h
    refine xvalP (pv_addI h55 rfl rfl) rfl rfl ?_
    refine xvalP (pv_move rfl) rfl rfl ?_
    refine xnil ?_
    obtain ⟨m', hm, hI⟩ := hag1 _ h
    exact xagain ⟨(x38 + 1), y54, hI, rfl⟩ hm ⟨(.cons rfl (.refl _) (.cons rfl (.refl _) (.cons rfl (.refl _) (.cons rfl (.refl _) (.cons rfl (.refl _) (.nil _)))))), (SubM.of (.keep rfl rfl (.refl _) (.keep rfl rfl (.refl _) (.nil _))) (.nil _))⟩
  · replace h := h.2 hp50
    refine xcondF' (decide_eq_false hp50) rfl ?_
    refine xexit ?_
    refine xthen_exit ?_
    refine xthen_exit ?_
    refine xin_same rfl ?_
    refine xthen ?_
    refine xseq ?_
    refine xregion ?_
    refine xval (qv_loadP 0 [] ((List.map ew f39.l).flatten) [] (by first | rfl | exact (List.append_nil _).symm | exact List.append_nil _ | exact List.append_assoc _ _ _ | exact (List.append_assoc _ _ _).symm | exact congrArg _ (List.append_nil _).symm | exact congrArg _ (List.append_nil _) | (simp; done) | (simp [cellsS]; done)) (by first | rfl | exact seg_lenE (by rfl) | exact len_app rfl (seg_lenE (by rfl)) (by rfl) | exact len_app (seg_lenE (by rfl)) rfl (by rfl) | exact len_app rfl (len_app (seg_lenE (by rfl)) rfl (by rfl)) (by rfl) | (simp only [seg_len, cellsS, List.length_append, List.length_cons, List.length_nil]; done) | (simp only [seg_len, cellsS, List.length_append, List.length_cons, List.length_nil]; rfl)) (by first | rfl | exact seg_lenE (by rfl) | exact len_app rfl (seg_lenE (by rfl)) (by rfl) | exact len_app (seg_lenE (by rfl)) rfl (by rfl) | exact len_app rfl (len_app (seg_lenE (by rfl)) rfl (by rfl)) (by rfl) | (simp only [seg_len, cellsS, List.length_append, List.length_cons, List.length_nil]; done) | (simp only [seg_len, cellsS, List.length_append, List.length_cons, List.length_nil]; rfl)) (part_all (seg_lenE (by rfl))) ShpC.h rfl rfl) rfl rfl ?_
    refine xstoreP 1 [] ((List.map ew ((Arr.rep 4 (0 : UInt64))).l).flatten) [] (by first | rfl | exact (List.append_nil _).symm | exact List.append_nil _ | exact List.append_assoc _ _ _ | exact (List.append_assoc _ _ _).symm | exact congrArg _ (List.append_nil _).symm | exact congrArg _ (List.append_nil _) | (simp; done) | (simp [cellsS]; done)) (by first | rfl | exact seg_lenE (by rfl) | exact len_app rfl (seg_lenE (by rfl)) (by rfl) | exact len_app (seg_lenE (by rfl)) rfl (by rfl) | exact len_app rfl (len_app (seg_lenE (by rfl)) rfl (by rfl)) (by rfl) | (simp only [seg_len, cellsS, List.length_append, List.length_cons, List.length_nil]; done) | (simp only [seg_len, cellsS, List.length_append, List.length_cons, List.length_nil]; rfl)) (by first | rfl | exact seg_lenE (by rfl) | exact len_app rfl (seg_lenE (by rfl)) (by rfl) | exact len_app (seg_lenE (by rfl)) rfl (by rfl) | exact len_app rfl (len_app (seg_lenE (by rfl)) rfl (by rfl)) (by rfl) | (simp only [seg_len, cellsS, List.length_append, List.length_cons, List.length_nil]; done) | (simp only [seg_len, cellsS, List.length_append, List.length_cons, List.length_nil]; rfl)) ShpC.h rfl rfl rfl rfl (by first | rfl | exact seg_lenE (by rfl) | exact len_app rfl (seg_lenE (by rfl)) (by rfl) | exact len_app (seg_lenE (by rfl)) rfl (by rfl) | exact len_app rfl (len_app (seg_lenE (by rfl)) rfl (by rfl)) (by rfl) | (simp only [seg_len, cellsS, List.length_append, List.length_cons, List.length_nil]; done) | (simp only [seg_len, cellsS, List.length_append, List.length_cons, List.length_nil]; rfl)) rfl ?_
    refine xreb 1 ((List.map ew f39.l).flatten) rfl (by first | rfl | exact (List.append_nil _).symm | exact List.append_nil _ | exact List.append_assoc _ _ _ | exact (List.append_assoc _ _ _).symm | exact congrArg _ (List.append_nil _).symm | exact congrArg _ (List.append_nil _) | (simp; done) | (simp [cellsS]; done)) ?_
    refine xnil ?_
    refine xthen ?_
    refine xretc ?_
    replace h := h.symm
    subst h
    exact xretL (rs := [.cell 2 26]) (ss := [.agg ((List.map ew f39.l).flatten)]) hg rfl (by refine RetL.cell 1 ShpC.h rfl rfl (part_midE (pre := []) (mid := ((List.map ew f39.l).flatten)) (post := []) (by first | rfl | exact (List.append_nil _).symm | exact List.append_nil _ | exact List.append_assoc _ _ _ | exact (List.append_assoc _ _ _).symm | exact congrArg _ (List.append_nil _).symm | exact congrArg _ (List.append_nil _) | (simp; done) | (simp [cellsS]; done)) (by first | rfl | exact seg_lenE (by rfl) | exact len_app rfl (seg_lenE (by rfl)) (by rfl) | exact len_app (seg_lenE (by rfl)) rfl (by rfl) | exact len_app rfl (len_app (seg_lenE (by rfl)) rfl (by rfl)) (by rfl) | (simp only [seg_len, cellsS, List.length_append, List.length_cons, List.length_nil]; done) | (simp only [seg_len, cellsS, List.length_append, List.length_cons, List.length_nil]; rfl)) (by first | rfl | exact seg_lenE (by rfl) | exact len_app rfl (seg_lenE (by rfl)) (by rfl) | exact len_app (seg_lenE (by rfl)) rfl (by rfl) | exact len_app rfl (len_app (seg_lenE (by rfl)) rfl (by rfl)) (by rfl) | (simp only [seg_len, cellsS, List.length_append, List.length_cons, List.length_nil]; done) | (simp only [seg_len, cellsS, List.length_append, List.length_cons, List.length_nil]; rfl)) (part_all (seg_lenE (by rfl)))) (len_midE (pre := []) (mid := ((List.map ew f39.l).flatten)) (post := []) (by first | rfl | exact (List.append_nil _).symm | exact List.append_nil _ | exact List.append_assoc _ _ _ | exact (List.append_assoc _ _ _).symm | exact congrArg _ (List.append_nil _).symm | exact congrArg _ (List.append_nil _) | (simp; done) | (simp [cellsS]; done)) (by first | rfl | exact seg_lenE (by rfl) | exact len_app rfl (seg_lenE (by rfl)) (by rfl) | exact len_app (seg_lenE (by rfl)) rfl (by rfl) | exact len_app rfl (len_app (seg_lenE (by rfl)) rfl (by rfl)) (by rfl) | (simp only [seg_len, cellsS, List.length_append, List.length_cons, List.length_nil]; done) | (simp only [seg_len, cellsS, List.length_append, List.length_cons, List.length_nil]; rfl)) (by first | rfl | exact seg_lenE (by rfl) | exact len_app rfl (seg_lenE (by rfl)) (by rfl) | exact len_app (seg_lenE (by rfl)) rfl (by rfl) | exact len_app rfl (len_app (seg_lenE (by rfl)) rfl (by rfl)) (by rfl) | (simp only [seg_len, cellsS, List.length_append, List.length_cons, List.length_nil]; done) | (simp only [seg_len, cellsS, List.length_append, List.length_cons, List.length_nil]; rfl))) (by first | with_reducible exact Wk.refl _ | exact Wk.nil_own _ | exact Wk.nil_pl _ | with_reducible exact Wk.tok _ _ _ | exact Wk.tok _ _ _ | exact .eq rfl) ?_; exact RetL.nil) (SubM.of (.nil _) (.nil _)) ⟨rfl, rfl, rfl⟩
/-- class.Range -/
def class_Range_l1 (bv2 : UInt8) (ag1 : (Int × (Arr 4 (UInt64))) → Prop) (c51 : Int) (f52 : Arr 4 (UInt64)) (r : (Arr 4 (UInt64))) : Prop :=
  ((c51 ≤ (bv2.toNat : Int) → ∃ c71 : UInt8, (c71.toNat : Int) = IntKind.u8.wrap c51 ∧ ∃ y73 : (Arr 4 (UInt64)), class_with_R f52 c71 y73 ∧ InR (c51 + 1) ∧ ag1 ((c51 + 1), y73)) ∧ (¬ (c51 ≤ (bv2.toNat : Int)) → r = f52))
def class_Range_R (a1 : UInt8) (bv2 : UInt8) (r : (Arr 4 (UInt64))) : Prop :=
  LoopR (fun ag1 s => class_Range_l1 bv2 ag1 s.1 s.2 r) ((a1.toNat : Int), (Arr.rep 4 (0 : UInt64)))
def class_Range_l1_ev (fuel : Nat) (bv2 : UInt8) (ag1e : (Int × (Arr 4 (UInt64))) → Option ((Arr 4 (UInt64)))) (c51 : Int) (f52 : Arr 4 (UInt64)) : Option ((Arr 4 (UInt64))) :=
  (if c51 ≤ (bv2.toNat : Int) then (exB (IntKind.u8.wrap c51) fun c71 => ((class_with_ev fuel f52 c71).bind fun y73 => (if InR (c51 + 1) then ag1e ((c51 + 1), y73) else none))) else some f52)
theorem class_Range_l1_ok {fuel : Nat} {bv2 : UInt8} {ag1e : (Int × (Arr 4 (UInt64))) → Option ((Arr 4 (UInt64)))} {ag1 : (Int × (Arr 4 (UInt64))) → Prop} {c51 : Int} {f52 : Arr 4 (UInt64)} {r : (Arr 4 (UInt64))} (hagag1 : ∀ s, ag1e s = some r → ag1 s) (h : class_Range_l1_ev fuel bv2 ag1e c51 f52 = some r) : class_Range_l1 bv2 ag1 c51 f52 r := by
  unfold class_Range_l1_ev at h
  unfold class_Range_l1
  refine ⟨fun g117 => ?_, fun g117 => ?_⟩
  · rw [if_pos g117] at h
    obtain ⟨q118, g118, h⟩ := exB_ok h
    refine ⟨q118, g118, ?_⟩
    obtain ⟨q119, g119, h⟩ := bind_ok h
    refine ⟨q119, class_with_ok g119, ?_⟩
    obtain ⟨g120, h⟩ := if_ok h
    refine ⟨g120, ?_⟩
    exact hagag1 _ h
  · rw [if_neg g117] at h
    exact (Option.some.inj h).symm
def class_Range_ev (fuel : Nat) (a1 : UInt8) (bv2 : UInt8) : Option ((Arr 4 (UInt64))) :=
  (loopE (fun ag1e s => class_Range_l1_ev fuel bv2 ag1e s.1 s.2) fuel ((a1.toNat : Int), (Arr.rep 4 (0 : UInt64))))
theorem class_Range_ok {fuel : Nat} {a1 : UInt8} {bv2 : UInt8} {r : (Arr 4 (UInt64))} (h : class_Range_ev fuel a1 bv2 = some r) : class_Range_R a1 bv2 r := by
  unfold class_Range_ev at h
  unfold class_Range_R
  refine loopE_ok ?_ h
  intro ae ag s hag h
  exact class_Range_l1_ok hag h
set_option maxHeartbeats 4000000 in
theorem class_Range_con (a1 : UInt8) (bv2 : UInt8) (r : (Arr 4 (UInt64))) (h : class_Range_R a1 bv2 r) : Con Try.prog 24 [.v (.int .u8 ((a1.toNat : Int))), .v (.int .u8 ((bv2.toNat : Int)))] [] [] (Ret (.agg ((List.map ew r.l).flatten))) := by
  refine xenter Try.func24 rfl rfl fun g hg => ?_
  simp only [Try.ntmps24, slots]
  refine xseq ?_
  refine xregion ?_
  refine xalloc InfC.h rfl rfl fun b4 => ?_
  refine xreb 0 ((List.map ew ((Arr.rep 4 (0 : UInt64))).l).flatten) rfl rfl ?_
  refine xnil ?_
  refine xthen ?_
  refine xseq ?_
  refine xregion ?_
  refine xalloc InfC.h rfl rfl fun b5 => ?_
  refine xreb 0 ((List.map ew ((Arr.rep 4 (0 : UInt64))).l).flatten) rfl rfl ?_
  refine xnil ?_
  refine xthen ?_
  refine xseq ?_
  refine xseq ?_
  refine xregion ?_
  refine xvalP (pv_move rfl) rfl rfl ?_
  refine xvalP (pv_convW (w8 a1) UndC.h UndC.h rfl) rfl rfl ?_
  refine xvalP (pv_assign rfl) rfl rfl ?_
  refine xnil ?_
  refine xthen ?_
  refine xblock ?_
  obtain ⟨Inv, ⟨m0, hI⟩, hS⟩ := h
  refine xloop (fun σ m => ∃ (c51 : Int), ∃ (f52 : Arr 4 (UInt64)), Inv (c51, f52) m ∧ σ = ⟨[(1, .v (.int .u8 ((bv2.toNat : Int)))), (4, .v (.pointer (some ⟨b4, 0, none⟩))), (5, .v (.pointer (some ⟨b5, 0, none⟩))), (6, .v (.int .i64 c51))], [⟨b5, 26, ((List.map ew f52.l).flatten)⟩, ⟨b4, 26, ((List.map ew ((Arr.rep 4 (0 : UInt64))).l).flatten)⟩], []⟩) ⟨(a1.toNat : Int), (Arr.rep 4 (0 : UInt64)), hI, rfl⟩ ⟨(.cons rfl (.refl _) (.cons rfl (.refl _) (.cons rfl (.refl _) (.cons rfl (.refl _) (.nil _))))), (SubM.of (.keep rfl rfl (.refl _) (.keep rfl rfl (.refl _) (.nil _))) (.nil _))⟩ ?_
  rintro _ m ⟨c51, f52, hI, rfl⟩
  obtain ⟨ag1, hag1, h⟩ : ∃ ag, (∀ s', ag s' → ∃ m', m' < m ∧ Inv s' m') ∧ class_Range_l1 bv2 ag c51 f52 r := ⟨_, fun _ h => h, hS (c51, f52) _ hI⟩
  clear hS hI
  refine xseq ?_
  refine xseq ?_
  refine xregion ?_
  refine xvalP (pv_move rfl) rfl rfl ?_
  refine xvalP (pv_move rfl) rfl rfl ?_
  refine xvalP (pv_convW (w8 bv2) UndC.h UndC.h rfl) rfl rfl ?_
  refine xvalP (pv_bin2 rfl rfl rfl) rfl rfl ?_
  refine xnil ?_
  refine xthen ?_
  by_cases hp69 : c51 ≤ (bv2.toNat : Int)
  · replace h := h.1 hp69
    refine xcondT' (decide_eq_true hp69) rfl ?_
    refine xskipc ?_
    refine xthen ?_
    refine xseq ?_
    refine xblock ?_
    refine xregion ?_
    refine xval (qv_loadP 0 [] ((List.map ew f52.l).flatten) [] (by first | rfl | exact (List.append_nil _).symm | exact List.append_nil _ | exact List.append_assoc _ _ _ | exact (List.append_assoc _ _ _).symm | exact congrArg _ (List.append_nil _).symm | exact congrArg _ (List.append_nil _) | (simp; done) | (simp [cellsS]; done)) (by first | rfl | exact seg_lenE (by rfl) | exact len_app rfl (seg_lenE (by rfl)) (by rfl) | exact len_app (seg_lenE (by rfl)) rfl (by rfl) | exact len_app rfl (len_app (seg_lenE (by rfl)) rfl (by rfl)) (by rfl) | (simp only [seg_len, cellsS, List.length_append, List.length_cons, List.length_nil]; done) | (simp only [seg_len, cellsS, List.length_append, List.length_cons, List.length_nil]; rfl)) (by first | rfl | exact seg_lenE (by rfl) | exact len_app rfl (seg_lenE (by rfl)) (by rfl) | exact len_app (seg_lenE (by rfl)) rfl (by rfl) | exact len_app rfl (len_app (seg_lenE (by rfl)) rfl (by rfl)) (by rfl) | (simp only [seg_len, cellsS, List.length_append, List.length_cons, List.length_nil]; done) | (simp only [seg_len, cellsS, List.length_append, List.length_cons, List.length_nil]; rfl)) (part_all (seg_lenE (by rfl))) ShpC.h rfl rfl) rfl rfl ?_
    refine xvalP (pv_move rfl) rfl rfl ?_
    obtain ⟨c71, h70, h⟩ := h
    refine xvalP (pv_convW h70 UndC.h UndC.h rfl) rfl rfl ?_
    obtain ⟨y73, h72, h⟩ := h
    refine xcall0 (class_with_con f52 c71 _ h72) Try.func26 (by kernel_rfl) rfl (.cons rfl (.refl _) (.cons rfl (.refl _) .nil)) rfl rfl ?_
    refine xstoreP 0 [] ((List.map ew f52.l).flatten) [] (by first | rfl | exact (List.append_nil _).symm | exact List.append_nil _ | exact List.append_assoc _ _ _ | exact (List.append_assoc _ _ _).symm | exact congrArg _ (List.append_nil _).symm | exact congrArg _ (List.append_nil _) | (simp; done) | (simp [cellsS]; done)) (by first | rfl | exact seg_lenE (by rfl) | exact len_app rfl (seg_lenE (by rfl)) (by rfl) | exact len_app (seg_lenE (by rfl)) rfl (by rfl) | exact len_app rfl (len_app (seg_lenE (by rfl)) rfl (by rfl)) (by rfl) | (simp only [seg_len, cellsS, List.length_append, List.length_cons, List.length_nil]; done) | (simp only [seg_len, cellsS, List.length_append, List.length_cons, List.length_nil]; rfl)) (by first | rfl | exact seg_lenE (by rfl) | exact len_app rfl (seg_lenE (by rfl)) (by rfl) | exact len_app (seg_lenE (by rfl)) rfl (by rfl) | exact len_app rfl (len_app (seg_lenE (by rfl)) rfl (by rfl)) (by rfl) | (simp only [seg_len, cellsS, List.length_append, List.length_cons, List.length_nil]; done) | (simp only [seg_len, cellsS, List.length_append, List.length_cons, List.length_nil]; rfl)) ShpC.h rfl rfl rfl rfl (by first | rfl | exact seg_lenE (by rfl) | exact len_app rfl (seg_lenE (by rfl)) (by rfl) | exact len_app (seg_lenE (by rfl)) rfl (by rfl) | exact len_app rfl (len_app (seg_lenE (by rfl)) rfl (by rfl)) (by rfl) | (simp only [seg_len, cellsS, List.length_append, List.length_cons, List.length_nil]; done) | (simp only [seg_len, cellsS, List.length_append, List.length_cons, List.length_nil]; rfl)) rfl ?_
    refine xreb 0 ((List.map ew y73.l).flatten) rfl (by first | rfl | exact (List.append_nil _).symm | exact List.append_nil _ | exact List.append_assoc _ _ _ | exact (List.append_assoc _ _ _).symm | exact congrArg _ (List.append_nil _).symm | exact congrArg _ (List.append_nil _) | (simp; done) | (simp [cellsS]; done)) ?_
    refine xnil ?_
    refine xin_normal ?_
    refine xthen ?_
    refine xregion ?_
    refine xvalP (pv_move rfl) rfl rfl ?_
    obtain ⟨h74, h⟩ := h
    refine xvalP (pv_addI h74 rfl rfl) rfl rfl ?_
    refine xvalP (pv_assign rfl) rfl rfl ?_
    refine xnil ?_
    obtain ⟨m', hm, hI⟩ := hag1 _ h
    exact xagain ⟨(c51 + 1), y73, hI, rfl⟩ hm ⟨(.cons rfl (.refl _) (.cons rfl (.refl _) (.cons rfl (.refl _) (.cons rfl (.refl _) (.nil _))))), (SubM.of (.keep rfl rfl (.refl _) (.keep rfl rfl (.refl _) (.nil _))) (.nil _))⟩
  · replace h := h.2 hp69
    refine xcondF' (decide_eq_false hp69) rfl ?_
    refine xexit ?_
    refine xthen_exit ?_
    refine xthen_exit ?_
    refine xin_same rfl ?_
    refine xthen ?_
    refine xseq ?_
    refine xregion ?_
    refine xval (qv_loadP 0 [] ((List.map ew f52.l).flatten) [] (by first | rfl | exact (List.append_nil _).symm | exact List.append_nil _ | exact List.append_assoc _ _ _ | exact (List.append_assoc _ _ _).symm | exact congrArg _ (List.append_nil _).symm | exact congrArg _ (List.append_nil _) | (simp; done) | (simp [cellsS]; done)) (by first | rfl | exact seg_lenE (by rfl) | exact len_app rfl (seg_lenE (by rfl)) (by rfl) | exact len_app (seg_lenE (by rfl)) rfl (by rfl) | exact len_app rfl (len_app (seg_lenE (by rfl)) rfl (by rfl)) (by rfl) | (simp only [seg_len, cellsS, List.length_append, List.length_cons, List.length_nil]; done) | (simp only [seg_len, cellsS, List.length_append, List.length_cons, List.length_nil]; rfl)) (by first | rfl | exact seg_lenE (by rfl) | exact len_app rfl (seg_lenE (by rfl)) (by rfl) | exact len_app (seg_lenE (by rfl)) rfl (by rfl) | exact len_app rfl (len_app (seg_lenE (by rfl)) rfl (by rfl)) (by rfl) | (simp only [seg_len, cellsS, List.length_append, List.length_cons, List.length_nil]; done) | (simp only [seg_len, cellsS, List.length_append, List.length_cons, List.length_nil]; rfl)) (part_all (seg_lenE (by rfl))) ShpC.h rfl rfl) rfl rfl ?_
    refine xstoreP 1 [] ((List.map ew ((Arr.rep 4 (0 : UInt64))).l).flatten) [] (by first | rfl | exact (List.append_nil _).symm | exact List.append_nil _ | exact List.append_assoc _ _ _ | exact (List.append_assoc _ _ _).symm | exact congrArg _ (List.append_nil _).symm | exact congrArg _ (List.append_nil _) | (simp; done) | (simp [cellsS]; done)) (by first | rfl | exact seg_lenE (by rfl) | exact len_app rfl (seg_lenE (by rfl)) (by rfl) | exact len_app (seg_lenE (by rfl)) rfl (by rfl) | exact len_app rfl (len_app (seg_lenE (by rfl)) rfl (by rfl)) (by rfl) | (simp only [seg_len, cellsS, List.length_append, List.length_cons, List.length_nil]; done) | (simp only [seg_len, cellsS, List.length_append, List.length_cons, List.length_nil]; rfl)) (by first | rfl | exact seg_lenE (by rfl) | exact len_app rfl (seg_lenE (by rfl)) (by rfl) | exact len_app (seg_lenE (by rfl)) rfl (by rfl) | exact len_app rfl (len_app (seg_lenE (by rfl)) rfl (by rfl)) (by rfl) | (simp only [seg_len, cellsS, List.length_append, List.length_cons, List.length_nil]; done) | (simp only [seg_len, cellsS, List.length_append, List.length_cons, List.length_nil]; rfl)) ShpC.h rfl rfl rfl rfl (by first | rfl | exact seg_lenE (by rfl) | exact len_app rfl (seg_lenE (by rfl)) (by rfl) | exact len_app (seg_lenE (by rfl)) rfl (by rfl) | exact len_app rfl (len_app (seg_lenE (by rfl)) rfl (by rfl)) (by rfl) | (simp only [seg_len, cellsS, List.length_append, List.length_cons, List.length_nil]; done) | (simp only [seg_len, cellsS, List.length_append, List.length_cons, List.length_nil]; rfl)) rfl ?_
    refine xreb 1 ((List.map ew f52.l).flatten) rfl (by first | rfl | exact (List.append_nil _).symm | exact List.append_nil _ | exact List.append_assoc _ _ _ | exact (List.append_assoc _ _ _).symm | exact congrArg _ (List.append_nil _).symm | exact congrArg _ (List.append_nil _) | (simp; done) | (simp [cellsS]; done)) ?_
    refine xnil ?_
    refine xthen ?_
    refine xretc ?_
    replace h := h.symm
    subst h
    exact xretL (rs := [.cell 4 26]) (ss := [.agg ((List.map ew f52.l).flatten)]) hg rfl (by refine RetL.cell 1 ShpC.h rfl rfl (part_midE (pre := []) (mid := ((List.map ew f52.l).flatten)) (post := []) (by first | rfl | exact (List.append_nil _).symm | exact List.append_nil _ | exact List.append_assoc _ _ _ | exact (List.append_assoc _ _ _).symm | exact congrArg _ (List.append_nil _).symm | exact congrArg _ (List.append_nil _) | (simp; done) | (simp [cellsS]; done)) (by first | rfl | exact seg_lenE (by rfl) | exact len_app rfl (seg_lenE (by rfl)) (by rfl) | exact len_app (seg_lenE (by rfl)) rfl (by rfl) | exact len_app rfl (len_app (seg_lenE (by rfl)) rfl (by rfl)) (by rfl) | (simp only [seg_len, cellsS, List.length_append, List.length_cons, List.length_nil]; done) | (simp only [seg_len, cellsS, List.length_append, List.length_cons, List.length_nil]; rfl)) (by first | rfl | exact seg_lenE (by rfl) | exact len_app rfl (seg_lenE (by rfl)) (by rfl) | exact len_app (seg_lenE (by rfl)) rfl (by rfl) | exact len_app rfl (len_app (seg_lenE (by rfl)) rfl (by rfl)) (by rfl) | (simp only [seg_len, cellsS, List.length_append, List.length_cons, List.length_nil]; done) | (simp only [seg_len, cellsS, List.length_append, List.length_cons, List.length_nil]; rfl)) (part_all (seg_lenE (by rfl)))) (len_midE (pre := []) (mid := ((List.map ew f52.l).flatten)) (post := []) (by first | rfl | exact (List.append_nil _).symm | exact List.append_nil _ | exact List.append_assoc _ _ _ | exact (List.append_assoc _ _ _).symm | exact congrArg _ (List.append_nil _).symm | exact congrArg _ (List.append_nil _) | (simp; done) | (simp [cellsS]; done)) (by first | rfl | exact seg_lenE (by rfl) | exact len_app rfl (seg_lenE (by rfl)) (by rfl) | exact len_app (seg_lenE (by rfl)) rfl (by rfl) | exact len_app rfl (len_app (seg_lenE (by rfl)) rfl (by rfl)) (by rfl) | (simp only [seg_len, cellsS, List.length_append, List.length_cons, List.length_nil]; done) | (simp only [seg_len, cellsS, List.length_append, List.length_cons, List.length_nil]; rfl)) (by first | rfl | exact seg_lenE (by rfl) | exact len_app rfl (seg_lenE (by rfl)) (by rfl) | exact len_app (seg_lenE (by rfl)) rfl (by rfl) | exact len_app rfl (len_app (seg_lenE (by rfl)) rfl (by rfl)) (by rfl) | (simp only [seg_len, cellsS, List.length_append, List.length_cons, List.length_nil]; done) | (simp only [seg_len, cellsS, List.length_append, List.length_cons, List.length_nil]; rfl))) (by first | with_reducible exact Wk.refl _ | exact Wk.nil_own _ | exact Wk.nil_pl _ | with_reducible exact Wk.tok _ _ _ | exact Wk.tok _ _ _ | exact .eq rfl) ?_; exact RetL.nil) (SubM.of (.nil _) (.nil _)) ⟨rfl, rfl, rfl⟩
end Go.Proofs.Ytgplmognfmjllaa
