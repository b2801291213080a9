/- What functions' texts ask for, and the walks that show it (printed by a program). -/
import Derived.Test.YtgplmognfmjllaaGKp3
namespace Go.Proofs.Ytgplmognfmjllaa
/-- brack.Parse -/
def brack_Parse_j5 (x1 : List UInt8) (x340 : Int) (f342 : Arr 4 (UInt64)) (ag4 : (Int × Bool × (Arr 4 (UInt64))) → Prop) (r : (Arr 4 (UInt64)) × Int × Int) : Prop :=
  ∃ y496 : (Arr 4 (UInt64)) × Int × Int, brack_part_R x1 x340 y496 ∧ ((¬ (y496.2.2 = 0) → r = ((Arr.rep 4 (0 : UInt64)), 0, y496.2.2)) ∧ (¬ (¬ (y496.2.2 = 0)) → ∃ y502 : (Arr 4 (UInt64)), class_Union_R ([f342, y496.1]) y502 ∧ ag4 (y496.2.1, false, y502)))
def brack_Parse_j6 (x340 : Int) (f490 : Arr 4 (UInt64)) (r : (Arr 4 (UInt64)) × Int × Int) : Prop :=
  InR (x340 + 1) ∧ r = (f490, (x340 + 1), 0)
def brack_Parse_l4 (x1 : List UInt8) (x29 : Bool) (ag4 : (Int × Bool × (Arr 4 (UInt64))) → Prop) (x340 : Int) (x341 : Bool) (f342 : Arr 4 (UInt64)) (r : (Arr 4 (UInt64)) × Int × Int) : Prop :=
  ((x340 < (x1.length : Int) → 0 ≤ (x340 : Int) ∧ ∃ y482 : UInt8, x1[(x340 : Int).toNat]? = some y482 ∧ (((y482.toNat : Int) = 93 → ((¬ (x341 = true) → ((x29 = true → ∃ y493 : (Arr 4 (UInt64)), class_Not_R f342 y493 ∧ brack_Parse_j6 x340 y493 r) ∧ (¬ (x29 = true) → brack_Parse_j6 x340 f342 r))) ∧ (¬ (¬ (x341 = true)) → brack_Parse_j5 x1 x340 f342 ag4 r))) ∧ (¬ ((y482.toNat : Int) = 93) → brack_Parse_j5 x1 x340 f342 ag4 r))) ∧ (¬ (x340 < (x1.length : Int)) → brack_Parse_j5 x1 x340 f342 ag4 r))
def brack_Parse_j3 (x1 : List UInt8) (x29 : Bool) (x38 : Int) (r : (Arr 4 (UInt64)) × Int × Int) : Prop :=
  LoopR (fun ag4 s => brack_Parse_l4 x1 x29 ag4 s.1 s.2.1 s.2.2 r) (x38, true, (Arr.rep 4 (0 : UInt64)))
def brack_Parse_j2 (x2 : Int) (x1 : List UInt8) (x29 : Bool) (r : (Arr 4 (UInt64)) × Int × Int) : Prop :=
  ((x29 = true → InR (x2 + 1) ∧ brack_Parse_j3 x1 x29 (x2 + 1) r) ∧ (¬ (x29 = true) → brack_Parse_j3 x1 x29 x2 r))
def brack_Parse_j1 (x2 : Int) (x1 : List UInt8) (x17 : Bool) (r : (Arr 4 (UInt64)) × Int × Int) : Prop :=
  ((x17 = true → r = ((Arr.rep 4 (0 : UInt64)), 0, 1)) ∧ (¬ (x17 = true) → ((x2 < (x1.length : Int) → 0 ≤ (x2 : Int) ∧ ∃ y33 : UInt8, x1[(x2 : Int).toNat]? = some y33 ∧ brack_Parse_j2 x2 x1 (decide ((y33.toNat : Int) = 94)) r) ∧ (¬ (x2 < (x1.length : Int)) → brack_Parse_j2 x2 x1 false r))))
def brack_Parse_R (x1 : List UInt8) (x2 : Int) (r : (Arr 4 (UInt64)) × Int × Int) : Prop :=
  brack_Parse_j1 x2 x1 ((decide (x2 < 0)) || (decide ((x1.length : Int) < x2))) r
def brack_Parse_j5_ev (fuel : Nat) (x1 : List UInt8) (x340 : Int) (f342 : Arr 4 (UInt64)) (ag4e : (Int × Bool × (Arr 4 (UInt64))) → Option ((Arr 4 (UInt64)) × Int × Int)) : Option ((Arr 4 (UInt64)) × Int × Int) :=
  ((brack_part_ev fuel x1 x340).bind fun y496 => (if ¬ (y496.2.2 = 0) then some ((Arr.rep 4 (0 : UInt64)), 0, y496.2.2) else ((class_Union_ev fuel ([f342, y496.1])).bind fun y502 => ag4e (y496.2.1, false, y502))))
theorem brack_Parse_j5_ok {fuel : Nat} {x1 : List UInt8} {x340 : Int} {f342 : Arr 4 (UInt64)} {ag4 : (Int × Bool × (Arr 4 (UInt64))) → Prop} {ag4e : (Int × Bool × (Arr 4 (UInt64))) → Option ((Arr 4 (UInt64)) × Int × Int)} {r : (Arr 4 (UInt64)) × Int × Int} (hagag4 : ∀ s, ag4e s = some r → ag4 s) (h : brack_Parse_j5_ev fuel x1 x340 f342 ag4e = some r) : brack_Parse_j5 x1 x340 f342 ag4 r := by
  unfold brack_Parse_j5_ev at h
  unfold brack_Parse_j5
  obtain ⟨q153, g153, h⟩ := bind_ok h
  refine ⟨q153, brack_part_ok g153, ?_⟩
  refine ⟨fun g154 => ?_, fun g154 => ?_⟩
  · rw [if_pos g154] at h
    exact (Option.some.inj h).symm
  · rw [if_neg g154] at h
    obtain ⟨q155, g155, h⟩ := bind_ok h
    refine ⟨q155, class_Union_ok g155, ?_⟩
    exact hagag4 _ h
def brack_Parse_j6_ev (fuel : Nat) (x340 : Int) (f490 : Arr 4 (UInt64)) : Option ((Arr 4 (UInt64)) × Int × Int) :=
  (if InR (x340 + 1) then some (f490, (x340 + 1), 0) else none)
theorem brack_Parse_j6_ok {fuel : Nat} {x340 : Int} {f490 : Arr 4 (UInt64)} {r : (Arr 4 (UInt64)) × Int × Int} (h : brack_Parse_j6_ev fuel x340 f490 = some r) : brack_Parse_j6 x340 f490 r := by
  unfold brack_Parse_j6_ev at h
  unfold brack_Parse_j6
  obtain ⟨g156, h⟩ := if_ok h
  refine ⟨g156, ?_⟩
  exact (Option.some.inj h).symm
def brack_Parse_l4_ev (fuel : Nat) (x1 : List UInt8) (x29 : Bool) (ag4e : (Int × Bool × (Arr 4 (UInt64))) → Option ((Arr 4 (UInt64)) × Int × Int)) (x340 : Int) (x341 : Bool) (f342 : Arr 4 (UInt64)) : Option ((Arr 4 (UInt64)) × Int × Int) :=
  (if x340 < (x1.length : Int) then (if 0 ≤ (x340 : Int) then ((x1[(x340 : Int).toNat]?).bind fun y482 => (if (y482.toNat : Int) = 93 then (if ¬ (x341 = true) then (if x29 = true then ((class_Not_ev fuel f342).bind fun y493 => brack_Parse_j6_ev fuel x340 y493) else brack_Parse_j6_ev fuel x340 f342) else brack_Parse_j5_ev fuel x1 x340 f342 ag4e) else brack_Parse_j5_ev fuel x1 x340 f342 ag4e)) else none) else brack_Parse_j5_ev fuel x1 x340 f342 ag4e)
theorem brack_Parse_l4_ok {fuel : Nat} {x1 : List UInt8} {x29 : Bool} {ag4e : (Int × Bool × (Arr 4 (UInt64))) → Option ((Arr 4 (UInt64)) × Int × Int)} {ag4 : (Int × Bool × (Arr 4 (UInt64))) → Prop} {x340 : Int} {x341 : Bool} {f342 : Arr 4 (UInt64)} {r : (Arr 4 (UInt64)) × Int × Int} (hagag4 : ∀ s, ag4e s = some r → ag4 s) (h : brack_Parse_l4_ev fuel x1 x29 ag4e x340 x341 f342 = some r) : brack_Parse_l4 x1 x29 ag4 x340 x341 f342 r := by
  unfold brack_Parse_l4_ev at h
  unfold brack_Parse_l4
  refine ⟨fun g157 => ?_, fun g157 => ?_⟩
  · rw [if_pos g157] at h
    obtain ⟨g158, h⟩ := if_ok h
    refine ⟨g158, ?_⟩
    obtain ⟨q159, g159, h⟩ := bind_ok h
    refine ⟨q159, g159, ?_⟩
    refine ⟨fun g160 => ?_, fun g160 => ?_⟩
    · rw [if_pos g160] at h
      refine ⟨fun g161 => ?_, fun g161 => ?_⟩
      · rw [if_pos g161] at h
        refine ⟨fun g162 => ?_, fun g162 => ?_⟩
        · rw [if_pos g162] at h
          obtain ⟨q163, g163, h⟩ := bind_ok h
          refine ⟨q163, class_Not_ok g163, ?_⟩
          exact brack_Parse_j6_ok h
        · rw [if_neg g162] at h
          exact brack_Parse_j6_ok h
      · rw [if_neg g161] at h
        exact brack_Parse_j5_ok hagag4 h
    · rw [if_neg g160] at h
      exact brack_Parse_j5_ok hagag4 h
  · rw [if_neg g157] at h
    exact brack_Parse_j5_ok hagag4 h
def brack_Parse_j3_ev (fuel : Nat) (x1 : List UInt8) (x29 : Bool) (x38 : Int) : Option ((Arr 4 (UInt64)) × Int × Int) :=
  (loopE (fun ag4e s => brack_Parse_l4_ev fuel x1 x29 ag4e s.1 s.2.1 s.2.2) fuel (x38, true, (Arr.rep 4 (0 : UInt64))))
theorem brack_Parse_j3_ok {fuel : Nat} {x1 : List UInt8} {x29 : Bool} {x38 : Int} {r : (Arr 4 (UInt64)) × Int × Int} (h : brack_Parse_j3_ev fuel x1 x29 x38 = some r) : brack_Parse_j3 x1 x29 x38 r := by
  unfold brack_Parse_j3_ev at h
  unfold brack_Parse_j3
  refine loopE_ok ?_ h
  intro ae ag s hag h
  exact brack_Parse_l4_ok hag h
def brack_Parse_j2_ev (fuel : Nat) (x2 : Int) (x1 : List UInt8) (x29 : Bool) : Option ((Arr 4 (UInt64)) × Int × Int) :=
  (if x29 = true then (if InR (x2 + 1) then brack_Parse_j3_ev fuel x1 x29 (x2 + 1) else none) else brack_Parse_j3_ev fuel x1 x29 x2)
theorem brack_Parse_j2_ok {fuel : Nat} {x2 : Int} {x1 : List UInt8} {x29 : Bool} {r : (Arr 4 (UInt64)) × Int × Int} (h : brack_Parse_j2_ev fuel x2 x1 x29 = some r) : brack_Parse_j2 x2 x1 x29 r := by
  unfold brack_Parse_j2_ev at h
  unfold brack_Parse_j2
  refine ⟨fun g164 => ?_, fun g164 => ?_⟩
  · rw [if_pos g164] at h
    obtain ⟨g165, h⟩ := if_ok h
    refine ⟨g165, ?_⟩
    exact brack_Parse_j3_ok h
  · rw [if_neg g164] at h
    exact brack_Parse_j3_ok h
def brack_Parse_j1_ev (fuel : Nat) (x2 : Int) (x1 : List UInt8) (x17 : Bool) : Option ((Arr 4 (UInt64)) × Int × Int) :=
  (if x17 = true then some ((Arr.rep 4 (0 : UInt64)), 0, 1) else (if x2 < (x1.length : Int) then (if 0 ≤ (x2 : Int) then ((x1[(x2 : Int).toNat]?).bind fun y33 => brack_Parse_j2_ev fuel x2 x1 (decide ((y33.toNat : Int) = 94))) else none) else brack_Parse_j2_ev fuel x2 x1 false))
theorem brack_Parse_j1_ok {fuel : Nat} {x2 : Int} {x1 : List UInt8} {x17 : Bool} {r : (Arr 4 (UInt64)) × Int × Int} (h : brack_Parse_j1_ev fuel x2 x1 x17 = some r) : brack_Parse_j1 x2 x1 x17 r := by
  unfold brack_Parse_j1_ev at h
  unfold brack_Parse_j1
  refine ⟨fun g166 => ?_, fun g166 => ?_⟩
  · rw [if_pos g166] at h
    exact (Option.some.inj h).symm
  · rw [if_neg g166] at h
    refine ⟨fun g167 => ?_, fun g167 => ?_⟩
    · rw [if_pos g167] at h
      obtain ⟨g168, h⟩ := if_ok h
      refine ⟨g168, ?_⟩
      obtain ⟨q169, g169, h⟩ := bind_ok h
      refine ⟨q169, g169, ?_⟩
      exact brack_Parse_j2_ok h
    · rw [if_neg g167] at h
      exact brack_Parse_j2_ok h
def brack_Parse_ev (fuel : Nat) (x1 : List UInt8) (x2 : Int) : Option ((Arr 4 (UInt64)) × Int × Int) :=
  brack_Parse_j1_ev fuel x2 x1 ((decide (x2 < 0)) || (decide ((x1.length : Int) < x2)))
theorem brack_Parse_ok {fuel : Nat} {x1 : List UInt8} {x2 : Int} {r : (Arr 4 (UInt64)) × Int × Int} (h : brack_Parse_ev fuel x1 x2 = some r) : brack_Parse_R x1 x2 r := by
  unfold brack_Parse_ev at h
  unfold brack_Parse_R
  exact brack_Parse_j1_ok h
set_option maxHeartbeats 4000000 in
theorem brack_Parse_con (x1 : List UInt8) (x2 : Int) (r : (Arr 4 (UInt64)) × Int × Int) (h : brack_Parse_R x1 x2 r) : Con Try.prog 7 [.sl 1 none (List.map eb x1), .v (.int .i64 x2)] [] [] (fun rr bx tk => rr = .tup [.agg ((List.map ew r.1.l).flatten), .v (.int .i64 r.2.1), .v (.int .i64 r.2.2)] ∧ bx = [] ∧ tk = []) := by
  refine xenter Try.func7 rfl rfl fun g hg => ?_
  simp only [Try.ntmps7, slots]
  unfold brack_Parse_R at h
  refine xseq ?_
  refine xregion ?_
  refine xalloc InfC.h rfl rfl fun b4 => ?_
  refine xreb 0 ((List.map ew ((Arr.rep 4 (0 : UInt64))).l).flatten) rfl rfl ?_
  refine xvalP (pv_assign rfl) rfl rfl ?_
  refine xvalP (pv_assign rfl) rfl rfl ?_
  refine xnil ?_
  refine xthen ?_
  refine xseq ?_
  refine xseqM (fun σ => ∃ (x17 : Bool), brack_Parse_j1 x2 x1 x17 r ∧ σ = ⟨[(0, .sl 1 none (List.map eb x1)), (1, .v (.int .i64 x2)), (4, .v (.pointer (some ⟨b4, 0, none⟩))), (20, .v (.bool x17))], [⟨b4, 26, ((List.map ew ((Arr.rep 4 (0 : UInt64))).l).flatten)⟩], []⟩) ?_ ?_
  · refine xregion ?_
    refine xvalP (pv_move rfl) rfl rfl ?_
    refine xvalP (pv_bin2 rfl rfl rfl) rfl rfl ?_
    refine xvalP (pv_move rfl) rfl rfl ?_
    by_cases hp19 : x2 < 0
    · rw [show (decide (x2 < 0)) = true from (decide_eq_true hp19), Bool.true_or] at h
      refine xsetB 15 (decide_eq_true hp19) rfl ?_
      refine xskip rfl rfl ?_
      refine xskip rfl rfl ?_
      refine xskip rfl rfl ?_
      refine xskip rfl rfl ?_
      refine xvalP (pv_pick rfl rfl) rfl rfl ?_
      refine xnil ?_
      exact xmeet ⟨true, h, rfl⟩ ⟨(.cons rfl (.refl _) (.cons rfl (.refl _) (.cons rfl (.refl _) (.cons rfl (.refl _) (.nil _))))), (SubM.of (.keep rfl rfl (.refl _) (.nil _)) (.nil _))⟩
    · rw [show (decide (x2 < 0)) = false from (decide_eq_false hp19), Bool.false_or] at h
      refine xsetB 15 (decide_eq_false hp19) rfl ?_
      refine xvalP (pv_move rfl) rfl rfl ?_
      refine xvalP (pv_move rfl) rfl rfl ?_
      refine xvalP (pv_lenM UndC.h rfl) rfl rfl ?_
      refine xvalP (pv_bin2 rfl rfl rfl) rfl rfl ?_
      refine xvalP (pv_pick rfl rfl) rfl rfl ?_
      refine xnil ?_
      exact xmeet ⟨(decide ((x1.length : Int) < x2)), h, rfl⟩ ⟨(.cons rfl (.refl _) (.cons rfl (.refl _) (.cons rfl (.refl _) (.cons rfl (.refl _) (.nil _))))), (SubM.of (.keep rfl rfl (.refl _) (.nil _)) (.nil _))⟩
  · clear h
    rintro _ ⟨x17, h, rfl⟩
    by_cases hp22 : x17 = true
    · replace h := h.1 hp22
      refine xcondT' hp22 rfl ?_
      refine xseq ?_
      refine xregion ?_
      refine xvalP (pv_buildAC (cs := ((List.map ew ((Arr.rep 4 (0 : UInt64))).l).flatten)) UndC.h ShpC.h InfC.h rfl (by rfl)) rfl rfl ?_
      refine xstoreP 0 [] ((List.map ew ((Arr.rep 4 (0 : UInt64))).l).flatten) [] (by first | rfl | exact (List.append_nil _).symm | exact List.append_nil _ | exact List.append_assoc _ _ _ | exact (List.append_assoc _ _ _).symm | exact congrArg _ (List.append_nil _).symm | exact congrArg _ (List.append_nil _) | (simp; done) | (simp [cellsS]; done)) (by first | rfl | exact seg_lenE (by rfl) | exact len_app rfl (seg_lenE (by rfl)) (by rfl) | exact len_app (seg_lenE (by rfl)) rfl (by rfl) | exact len_app rfl (len_app (seg_lenE (by rfl)) rfl (by rfl)) (by rfl) | (simp only [seg_len, cellsS, List.length_append, List.length_cons, List.length_nil]; done) | (simp only [seg_len, cellsS, List.length_append, List.length_cons, List.length_nil]; rfl)) (by first | rfl | exact seg_lenE (by rfl) | exact len_app rfl (seg_lenE (by rfl)) (by rfl) | exact len_app (seg_lenE (by rfl)) rfl (by rfl) | exact len_app rfl (len_app (seg_lenE (by rfl)) rfl (by rfl)) (by rfl) | (simp only [seg_len, cellsS, List.length_append, List.length_cons, List.length_nil]; done) | (simp only [seg_len, cellsS, List.length_append, List.length_cons, List.length_nil]; rfl)) ShpC.h rfl rfl rfl rfl (by first | rfl | exact seg_lenE (by rfl) | exact len_app rfl (seg_lenE (by rfl)) (by rfl) | exact len_app (seg_lenE (by rfl)) rfl (by rfl) | exact len_app rfl (len_app (seg_lenE (by rfl)) rfl (by rfl)) (by rfl) | (simp only [seg_len, cellsS, List.length_append, List.length_cons, List.length_nil]; done) | (simp only [seg_len, cellsS, List.length_append, List.length_cons, List.length_nil]; rfl)) rfl ?_
      refine xreb 0 ((List.map ew ((Arr.rep 4 (0 : UInt64))).l).flatten) rfl (by first | rfl | exact (List.append_nil _).symm | exact List.append_nil _ | exact List.append_assoc _ _ _ | exact (List.append_assoc _ _ _).symm | exact congrArg _ (List.append_nil _).symm | exact congrArg _ (List.append_nil _) | (simp; done) | (simp [cellsS]; done)) ?_
      refine xvalP (pv_assign rfl) rfl rfl ?_
      refine xvalP (pv_assign rfl) rfl rfl ?_
      refine xnil ?_
      refine xthen ?_
      refine xretc ?_
      refine xthen_ret ?_
      replace h := h.symm
      subst h
      exact xretL (rs := [.cell 4 26, .tmp 5, .tmp 6]) (ss := [.agg ((List.map ew ((Arr.rep 4 (0 : UInt64))).l).flatten), .v (.int .i64 0), .v (.int .i64 1)]) hg rfl (by refine RetL.cell 0 ShpC.h rfl rfl (part_midE (pre := []) (mid := ((List.map ew ((Arr.rep 4 (0 : UInt64))).l).flatten)) (post := []) (by first | rfl | exact (List.append_nil _).symm | exact List.append_nil _ | exact List.append_assoc _ _ _ | exact (List.append_assoc _ _ _).symm | exact congrArg _ (List.append_nil _).symm | exact congrArg _ (List.append_nil _) | (simp; done) | (simp [cellsS]; done)) (by first | rfl | exact seg_lenE (by rfl) | exact len_app rfl (seg_lenE (by rfl)) (by rfl) | exact len_app (seg_lenE (by rfl)) rfl (by rfl) | exact len_app rfl (len_app (seg_lenE (by rfl)) rfl (by rfl)) (by rfl) | (simp only [seg_len, cellsS, List.length_append, List.length_cons, List.length_nil]; done) | (simp only [seg_len, cellsS, List.length_append, List.length_cons, List.length_nil]; rfl)) (by first | rfl | exact seg_lenE (by rfl) | exact len_app rfl (seg_lenE (by rfl)) (by rfl) | exact len_app (seg_lenE (by rfl)) rfl (by rfl) | exact len_app rfl (len_app (seg_lenE (by rfl)) rfl (by rfl)) (by rfl) | (simp only [seg_len, cellsS, List.length_append, List.length_cons, List.length_nil]; done) | (simp only [seg_len, cellsS, List.length_append, List.length_cons, List.length_nil]; rfl)) (part_all (seg_lenE (by rfl)))) (len_midE (pre := []) (mid := ((List.map ew ((Arr.rep 4 (0 : UInt64))).l).flatten)) (post := []) (by first | rfl | exact (List.append_nil _).symm | exact List.append_nil _ | exact List.append_assoc _ _ _ | exact (List.append_assoc _ _ _).symm | exact congrArg _ (List.append_nil _).symm | exact congrArg _ (List.append_nil _) | (simp; done) | (simp [cellsS]; done)) (by first | rfl | exact seg_lenE (by rfl) | exact len_app rfl (seg_lenE (by rfl)) (by rfl) | exact len_app (seg_lenE (by rfl)) rfl (by rfl) | exact len_app rfl (len_app (seg_lenE (by rfl)) rfl (by rfl)) (by rfl) | (simp only [seg_len, cellsS, List.length_append, List.length_cons, List.length_nil]; done) | (simp only [seg_len, cellsS, List.length_append, List.length_cons, List.length_nil]; rfl)) (by first | rfl | exact seg_lenE (by rfl) | exact len_app rfl (seg_lenE (by rfl)) (by rfl) | exact len_app (seg_lenE (by rfl)) rfl (by rfl) | exact len_app rfl (len_app (seg_lenE (by rfl)) rfl (by rfl)) (by rfl) | (simp only [seg_len, cellsS, List.length_append, List.length_cons, List.length_nil]; done) | (simp only [seg_len, cellsS, List.length_append, List.length_cons, List.length_nil]; rfl))) (by first | with_reducible exact Wk.refl _ | exact Wk.nil_own _ | exact Wk.nil_pl _ | with_reducible exact Wk.tok _ _ _ | exact Wk.tok _ _ _ | exact .eq rfl) ?_; refine RetL.tmp rfl (.refl _) ?_; refine RetL.tmp rfl (.refl _) ?_; exact RetL.nil) (SubM.of (.nil _) (.nil _)) ⟨rfl, rfl, rfl⟩
    · replace h := h.2 hp22
      refine xcondF' (b_f hp22) rfl ?_
      refine xskipc ?_
      refine xthen ?_
      refine xseqM (fun σ => ∃ (x29 : Bool), brack_Parse_j2 x2 x1 x29 r ∧ σ = ⟨[(0, .sl 1 none (List.map eb x1)), (1, .v (.int .i64 x2)), (4, .v (.pointer (some ⟨b4, 0, none⟩))), (7, .v (.bool x29))], [⟨b4, 26, ((List.map ew ((Arr.rep 4 (0 : UInt64))).l).flatten)⟩], []⟩) ?_ ?_
      · refine xregion ?_
        refine xvalP (pv_move rfl) rfl rfl ?_
        refine xvalP (pv_move rfl) rfl rfl ?_
        refine xvalP (pv_lenM UndC.h rfl) rfl rfl ?_
        refine xvalP (pv_bin2 rfl rfl rfl) rfl rfl ?_
        refine xvalP (pv_move rfl) rfl rfl ?_
        by_cases hp32 : x2 < (x1.length : Int)
        · replace h := h.1 hp32
          refine xsetB 26 (decide_eq_true hp32) rfl ?_
          refine xvalP (pv_move rfl) rfl rfl ?_
          refine xvalP (pv_move rfl) rfl rfl ?_
          obtain ⟨h34a, h⟩ := h
          obtain ⟨y33, h34b, h⟩ := h
          refine xvalP (pv_indexAddrM h34a h34b UndC.h ShpC.h rfl rfl) rfl rfl ?_
          refine xval (qv_load ShpC.h rfl rfl rfl) rfl rfl ?_
          refine xvalP (pv_bin2 rfl rfl rfl) rfl rfl ?_
          refine xvalP (pv_pick rfl rfl) rfl rfl ?_
          refine xvalP (pv_assign rfl) rfl rfl ?_
          refine xnil ?_
          exact xmeet ⟨(decide ((y33.toNat : Int) = 94)), h, rfl⟩ ⟨(.cons rfl (.refl _) (.cons rfl (.refl _) (.cons rfl (.refl _) (.cons rfl (.refl _) (.nil _))))), (SubM.of (.keep rfl rfl (.refl _) (.nil _)) (.nil _))⟩
        · replace h := h.2 hp32
          refine xsetB 26 (decide_eq_false hp32) rfl ?_
          refine xskip rfl rfl ?_
          refine xskip rfl rfl ?_
          refine xskip rfl rfl ?_
          refine xskip rfl rfl ?_
          refine xskip rfl rfl ?_
          refine xvalP (pv_pick rfl rfl) rfl rfl ?_
          refine xvalP (pv_assign rfl) rfl rfl ?_
          refine xnil ?_
          exact xmeet ⟨false, h, rfl⟩ ⟨(.cons rfl (.refl _) (.cons rfl (.refl _) (.cons rfl (.refl _) (.cons rfl (.refl _) (.nil _))))), (SubM.of (.keep rfl rfl (.refl _) (.nil _)) (.nil _))⟩
      · clear h
        rintro _ ⟨x29, h, rfl⟩
        refine xseqM (fun σ => ∃ (x38 : Int), brack_Parse_j3 x1 x29 x38 r ∧ σ = ⟨[(0, .sl 1 none (List.map eb x1)), (1, .v (.int .i64 x38)), (4, .v (.pointer (some ⟨b4, 0, none⟩))), (7, .v (.bool x29))], [⟨b4, 26, ((List.map ew ((Arr.rep 4 (0 : UInt64))).l).flatten)⟩], []⟩) ?_ ?_
        · refine xseq ?_
          refine xregion ?_
          refine xvalP (pv_move rfl) rfl rfl ?_
          refine xnil ?_
          refine xthen ?_
          by_cases hp39 : x29 = true
          · replace h := h.1 hp39
            refine xcondT' hp39 rfl ?_
            refine xregion ?_
            refine xvalP (pv_move rfl) rfl rfl ?_
            obtain ⟨h40, h⟩ := h
            refine xvalP (pv_addI h40 rfl rfl) rfl rfl ?_
            refine xvalP (pv_assign rfl) rfl rfl ?_
            refine xnil ?_
            exact xmeet ⟨(x2 + 1), h, rfl⟩ ⟨(.cons rfl (.refl _) (.cons rfl (.refl _) (.cons rfl (.refl _) (.cons rfl (.refl _) (.nil _))))), (SubM.of (.keep rfl rfl (.refl _) (.nil _)) (.nil _))⟩
          · replace h := h.2 hp39
            refine xcondF' (b_f hp39) rfl ?_
            refine xskipc ?_
            exact xmeet ⟨x2, h, rfl⟩ ⟨(.cons rfl (.refl _) (.cons rfl (.refl _) (.cons rfl (.refl _) (.cons rfl (.refl _) (.nil _))))), (SubM.of (.keep rfl rfl (.refl _) (.nil _)) (.nil _))⟩
        · clear h
          rintro _ ⟨x38, h, rfl⟩
          refine xseq ?_
          refine xregion ?_
          refine xalloc InfC.h rfl rfl fun b8 => ?_
          refine xreb 0 ((List.map ew ((Arr.rep 4 (0 : UInt64))).l).flatten) rfl rfl ?_
          refine xnil ?_
          refine xthen ?_
          refine xseq ?_
          refine xseq ?_
          refine xregion ?_
          refine xvalP (pv_assign rfl) rfl rfl ?_
          refine xnil ?_
          refine xthen ?_
          refine xblock ?_
          obtain ⟨Inv, ⟨m0, hI⟩, hS⟩ := h
          refine xloop (fun σ m => ∃ (x340 : Int), ∃ (x341 : Bool), ∃ (f342 : Arr 4 (UInt64)), Inv (x340, x341, f342) m ∧ σ = ⟨[(0, .sl 1 none (List.map eb x1)), (1, .v (.int .i64 x340)), (4, .v (.pointer (some ⟨b4, 0, none⟩))), (7, .v (.bool x29)), (8, .v (.pointer (some ⟨b8, 0, none⟩))), (9, .v (.bool x341))], [⟨b8, 26, ((List.map ew f342.l).flatten)⟩, ⟨b4, 26, ((List.map ew ((Arr.rep 4 (0 : UInt64))).l).flatten)⟩], []⟩) ⟨x38, true, (Arr.rep 4 (0 : UInt64)), hI, rfl⟩ ⟨(.cons rfl (.refl _) (.cons rfl (.refl _) (.cons rfl (.refl _) (.cons rfl (.refl _) (.cons rfl (.refl _) (.cons rfl (.refl _) (.nil _))))))), (SubM.of (.keep rfl rfl (.refl _) (.keep rfl rfl (.refl _) (.nil _))) (.nil _))⟩ ?_
          rintro _ m ⟨x340, x341, f342, hI, rfl⟩
          obtain ⟨ag4, hag4, h⟩ : ∃ ag, (∀ s', ag s' → ∃ m', m' < m ∧ Inv s' m') ∧ brack_Parse_l4 x1 x29 ag x340 x341 f342 r := ⟨_, fun _ h => h, hS (x340, x341, f342) _ hI⟩
          clear hS hI
          refine xseq ?_
          refine xblock ?_
          refine xseqM (fun σ => brack_Parse_j5 x1 x340 f342 ag4 r ∧ σ = ⟨[(0, .sl 1 none (List.map eb x1)), (1, .v (.int .i64 x340)), (4, .v (.pointer (some ⟨b4, 0, none⟩))), (7, .v (.bool x29)), (8, .v (.pointer (some ⟨b8, 0, none⟩)))], [⟨b8, 26, ((List.map ew f342.l).flatten)⟩, ⟨b4, 26, ((List.map ew ((Arr.rep 4 (0 : UInt64))).l).flatten)⟩], []⟩) ?_ ?_
          · refine xseq ?_
            refine xregion ?_
            refine xvalP (pv_move rfl) rfl rfl ?_
            refine xvalP (pv_move rfl) rfl rfl ?_
            refine xvalP (pv_lenM UndC.h rfl) rfl rfl ?_
            refine xvalP (pv_bin2 rfl rfl rfl) rfl rfl ?_
            refine xvalP (pv_move rfl) rfl rfl ?_
            by_cases hp481 : x340 < (x1.length : Int)
            · replace h := h.1 hp481
              refine xsetB 40 (decide_eq_true hp481) rfl ?_
              refine xvalP (pv_move rfl) rfl rfl ?_
              refine xvalP (pv_move rfl) rfl rfl ?_
              obtain ⟨h483a, h⟩ := h
              obtain ⟨y482, h483b, h⟩ := h
              refine xvalP (pv_indexAddrM h483a h483b UndC.h ShpC.h rfl rfl) rfl rfl ?_
              refine xval (qv_load ShpC.h rfl rfl rfl) rfl rfl ?_
              refine xvalP (pv_bin2 rfl rfl rfl) rfl rfl ?_
              refine xvalP (pv_pick rfl rfl) rfl rfl ?_
              refine xvalP (pv_move rfl) rfl rfl ?_
              by_cases hp485 : (y482.toNat : Int) = 93
              · replace h := h.1 hp485
                refine xsetB 47 (decide_eq_true hp485) rfl ?_
                refine xvalP (pv_move rfl) rfl rfl ?_
                refine xvalP (pv_not rfl) rfl rfl ?_
                refine xvalP (pv_pick rfl rfl) rfl rfl ?_
                refine xnil ?_
                refine xthen ?_
                by_cases hp486 : ¬ (x341 = true)
                · replace h := h.1 hp486
                  refine xcondT' (not_t (b_f hp486)) rfl ?_
                  refine xexit ?_
                  refine xthen_exit ?_
                  refine xin_other rfl ?_
                  refine xthen_exit ?_
                  refine xthen_exit ?_
                  refine xin_same rfl ?_
                  refine xthen ?_
                  refine xseqM (fun σ => ∃ (f490 : Arr 4 (UInt64)), brack_Parse_j6 x340 f490 r ∧ σ = ⟨[(1, .v (.int .i64 x340)), (4, .v (.pointer (some ⟨b4, 0, none⟩))), (8, .v (.pointer (some ⟨b8, 0, none⟩)))], [⟨b8, 26, ((List.map ew f490.l).flatten)⟩, ⟨b4, 26, ((List.map ew ((Arr.rep 4 (0 : UInt64))).l).flatten)⟩], []⟩) ?_ ?_
                  · refine xseq ?_
                    refine xregion ?_
                    refine xvalP (pv_move rfl) rfl rfl ?_
                    refine xnil ?_
                    refine xthen ?_
                    by_cases hp491 : x29 = true
                    · replace h := h.1 hp491
                      refine xcondT' hp491 rfl ?_
                      refine xregion ?_
                      refine xval (qv_loadP 0 [] ((List.map ew f342.l).flatten) [] (by first | rfl | exact (List.append_nil _).symm | exact List.append_nil _ | exact List.append_assoc _ _ _ | exact (List.append_assoc _ _ _).symm | exact congrArg _ (List.append_nil _).symm | exact congrArg _ (List.append_nil _) | (simp; done) | (simp [cellsS]; done)) (by first | rfl | exact seg_lenE (by rfl) | exact len_app rfl (seg_lenE (by rfl)) (by rfl) | exact len_app (seg_lenE (by rfl)) rfl (by rfl) | exact len_app rfl (len_app (seg_lenE (by rfl)) rfl (by rfl)) (by rfl) | (simp only [seg_len, cellsS, List.length_append, List.length_cons, List.length_nil]; done) | (simp only [seg_len, cellsS, List.length_append, List.length_cons, List.length_nil]; rfl)) (by first | rfl | exact seg_lenE (by rfl) | exact len_app rfl (seg_lenE (by rfl)) (by rfl) | exact len_app (seg_lenE (by rfl)) rfl (by rfl) | exact len_app rfl (len_app (seg_lenE (by rfl)) rfl (by rfl)) (by rfl) | (simp only [seg_len, cellsS, List.length_append, List.length_cons, List.length_nil]; done) | (simp only [seg_len, cellsS, List.length_append, List.length_cons, List.length_nil]; rfl)) (part_all (seg_lenE (by rfl))) ShpC.h rfl rfl) rfl rfl ?_
                      obtain ⟨y493, h492, h⟩ := h
                      refine xcall0 (class_Not_con f342 _ h492) Try.func13 (by kernel_rfl) rfl (.cons rfl (.refl _) .nil) rfl rfl ?_
                      refine xstoreP 0 [] ((List.map ew f342.l).flatten) [] (by first | rfl | exact (List.append_nil _).symm | exact List.append_nil _ | exact List.append_assoc _ _ _ | exact (List.append_assoc _ _ _).symm | exact congrArg _ (List.append_nil _).symm | exact congrArg _ (List.append_nil _) | (simp; done) | (simp [cellsS]; done)) (by first | rfl | exact seg_lenE (by rfl) | exact len_app rfl (seg_lenE (by rfl)) (by rfl) | exact len_app (seg_lenE (by rfl)) rfl (by rfl) | exact len_app rfl (len_app (seg_lenE (by rfl)) rfl (by rfl)) (by rfl) | (simp only [seg_len, cellsS, List.length_append, List.length_cons, List.length_nil]; done) | (simp only [seg_len, cellsS, List.length_append, List.length_cons, List.length_nil]; rfl)) (by first | rfl | exact seg_lenE (by rfl) | exact len_app rfl (seg_lenE (by rfl)) (by rfl) | exact len_app (seg_lenE (by rfl)) rfl (by rfl) | exact len_app rfl (len_app (seg_lenE (by rfl)) rfl (by rfl)) (by rfl) | (simp only [seg_len, cellsS, List.length_append, List.length_cons, List.length_nil]; done) | (simp only [seg_len, cellsS, List.length_append, List.length_cons, List.length_nil]; rfl)) ShpC.h rfl rfl rfl rfl (by first | rfl | exact seg_lenE (by rfl) | exact len_app rfl (seg_lenE (by rfl)) (by rfl) | exact len_app (seg_lenE (by rfl)) rfl (by rfl) | exact len_app rfl (len_app (seg_lenE (by rfl)) rfl (by rfl)) (by rfl) | (simp only [seg_len, cellsS, List.length_append, List.length_cons, List.length_nil]; done) | (simp only [seg_len, cellsS, List.length_append, List.length_cons, List.length_nil]; rfl)) rfl ?_
                      refine xreb 0 ((List.map ew y493.l).flatten) rfl (by first | rfl | exact (List.append_nil _).symm | exact List.append_nil _ | exact List.append_assoc _ _ _ | exact (List.append_assoc _ _ _).symm | exact congrArg _ (List.append_nil _).symm | exact congrArg _ (List.append_nil _) | (simp; done) | (simp [cellsS]; done)) ?_
                      refine xnil ?_
                      exact xmeet ⟨y493, h, rfl⟩ ⟨(.cons rfl (.refl _) (.cons rfl (.refl _) (.cons rfl (.refl _) (.nil _)))), (SubM.of (.keep rfl rfl (.refl _) (.keep rfl rfl (.refl _) (.nil _))) (.nil _))⟩
                    · replace h := h.2 hp491
                      refine xcondF' (b_f hp491) rfl ?_
                      refine xskipc ?_
                      exact xmeet ⟨f342, h, rfl⟩ ⟨(.cons rfl (.refl _) (.cons rfl (.refl _) (.cons rfl (.refl _) (.nil _)))), (SubM.of (.keep rfl rfl (.refl _) (.keep rfl rfl (.refl _) (.nil _))) (.nil _))⟩
                  · clear h
                    rintro _ ⟨f490, h, rfl⟩
                    refine xseq ?_
                    refine xregion ?_
                    refine xval (qv_loadP 0 [] ((List.map ew f490.l).flatten) [] (by first | rfl | exact (List.append_nil _).symm | exact List.append_nil _ | exact List.append_assoc _ _ _ | exact (List.append_assoc _ _ _).symm | exact congrArg _ (List.append_nil _).symm | exact congrArg _ (List.append_nil _) | (simp; done) | (simp [cellsS]; done)) (by first | rfl | exact seg_lenE (by rfl) | exact len_app rfl (seg_lenE (by rfl)) (by rfl) | exact len_app (seg_lenE (by rfl)) rfl (by rfl) | exact len_app rfl (len_app (seg_lenE (by rfl)) rfl (by rfl)) (by rfl) | (simp only [seg_len, cellsS, List.length_append, List.length_cons, List.length_nil]; done) | (simp only [seg_len, cellsS, List.length_append, List.length_cons, List.length_nil]; rfl)) (by first | rfl | exact seg_lenE (by rfl) | exact len_app rfl (seg_lenE (by rfl)) (by rfl) | exact len_app (seg_lenE (by rfl)) rfl (by rfl) | exact len_app rfl (len_app (seg_lenE (by rfl)) rfl (by rfl)) (by rfl) | (simp only [seg_len, cellsS, List.length_append, List.length_cons, List.length_nil]; done) | (simp only [seg_len, cellsS, List.length_append, List.length_cons, List.length_nil]; rfl)) (part_all (seg_lenE (by rfl))) ShpC.h rfl rfl) rfl rfl ?_
                    refine xvalP (pv_move rfl) rfl rfl ?_
                    obtain ⟨h494, h⟩ := h
                    refine xvalP (pv_addI h494 rfl rfl) rfl rfl ?_
                    refine xstoreP 1 [] ((List.map ew ((Arr.rep 4 (0 : UInt64))).l).flatten) [] (by first | rfl | exact (List.append_nil _).symm | exact List.append_nil _ | exact List.append_assoc _ _ _ | exact (List.append_assoc _ _ _).symm | exact congrArg _ (List.append_nil _).symm | exact congrArg _ (List.append_nil _) | (simp; done) | (simp [cellsS]; done)) (by first | rfl | exact seg_lenE (by rfl) | exact len_app rfl (seg_lenE (by rfl)) (by rfl) | exact len_app (seg_lenE (by rfl)) rfl (by rfl) | exact len_app rfl (len_app (seg_lenE (by rfl)) rfl (by rfl)) (by rfl) | (simp only [seg_len, cellsS, List.length_append, List.length_cons, List.length_nil]; done) | (simp only [seg_len, cellsS, List.length_append, List.length_cons, List.length_nil]; rfl)) (by first | rfl | exact seg_lenE (by rfl) | exact len_app rfl (seg_lenE (by rfl)) (by rfl) | exact len_app (seg_lenE (by rfl)) rfl (by rfl) | exact len_app rfl (len_app (seg_lenE (by rfl)) rfl (by rfl)) (by rfl) | (simp only [seg_len, cellsS, List.length_append, List.length_cons, List.length_nil]; done) | (simp only [seg_len, cellsS, List.length_append, List.length_cons, List.length_nil]; rfl)) ShpC.h rfl rfl rfl rfl (by first | rfl | exact seg_lenE (by rfl) | exact len_app rfl (seg_lenE (by rfl)) (by rfl) | exact len_app (seg_lenE (by rfl)) rfl (by rfl) | exact len_app rfl (len_app (seg_lenE (by rfl)) rfl (by rfl)) (by rfl) | (simp only [seg_len, cellsS, List.length_append, List.length_cons, List.length_nil]; done) | (simp only [seg_len, cellsS, List.length_append, List.length_cons, List.length_nil]; rfl)) rfl ?_
                    refine xreb 1 ((List.map ew f490.l).flatten) rfl (by first | rfl | exact (List.append_nil _).symm | exact List.append_nil _ | exact List.append_assoc _ _ _ | exact (List.append_assoc _ _ _).symm | exact congrArg _ (List.append_nil _).symm | exact congrArg _ (List.append_nil _) | (simp; done) | (simp [cellsS]; done)) ?_
                    refine xvalP (pv_assign rfl) rfl rfl ?_
                    refine xvalP (pv_assign rfl) rfl rfl ?_
                    refine xnil ?_
                    refine xthen ?_
                    refine xretc ?_
                    replace h := h.symm
                    subst h
                    exact xretL (rs := [.cell 4 26, .tmp 5, .tmp 6]) (ss := [.agg ((List.map ew f490.l).flatten), .v (.int .i64 ((x340 + 1))), .v (.int .i64 0)]) hg rfl (by refine RetL.cell 1 ShpC.h rfl rfl (part_midE (pre := []) (mid := ((List.map ew f490.l).flatten)) (post := []) (by first | rfl | exact (List.append_nil _).symm | exact List.append_nil _ | exact List.append_assoc _ _ _ | exact (List.append_assoc _ _ _).symm | exact congrArg _ (List.append_nil _).symm | exact congrArg _ (List.append_nil _) | (simp; done) | (simp [cellsS]; done)) (by first | rfl | exact seg_lenE (by rfl) | exact len_app rfl (seg_lenE (by rfl)) (by rfl) | exact len_app (seg_lenE (by rfl)) rfl (by rfl) | exact len_app rfl (len_app (seg_lenE (by rfl)) rfl (by rfl)) (by rfl) | (simp only [seg_len, cellsS, List.length_append, List.length_cons, List.length_nil]; done) | (simp only [seg_len, cellsS, List.length_append, List.length_cons, List.length_nil]; rfl)) (by first | rfl | exact seg_lenE (by rfl) | exact len_app rfl (seg_lenE (by rfl)) (by rfl) | exact len_app (seg_lenE (by rfl)) rfl (by rfl) | exact len_app rfl (len_app (seg_lenE (by rfl)) rfl (by rfl)) (by rfl) | (simp only [seg_len, cellsS, List.length_append, List.length_cons, List.length_nil]; done) | (simp only [seg_len, cellsS, List.length_append, List.length_cons, List.length_nil]; rfl)) (part_all (seg_lenE (by rfl)))) (len_midE (pre := []) (mid := ((List.map ew f490.l).flatten)) (post := []) (by first | rfl | exact (List.append_nil _).symm | exact List.append_nil _ | exact List.append_assoc _ _ _ | exact (List.append_assoc _ _ _).symm | exact congrArg _ (List.append_nil _).symm | exact congrArg _ (List.append_nil _) | (simp; done) | (simp [cellsS]; done)) (by first | rfl | exact seg_lenE (by rfl) | exact len_app rfl (seg_lenE (by rfl)) (by rfl) | exact len_app (seg_lenE (by rfl)) rfl (by rfl) | exact len_app rfl (len_app (seg_lenE (by rfl)) rfl (by rfl)) (by rfl) | (simp only [seg_len, cellsS, List.length_append, List.length_cons, List.length_nil]; done) | (simp only [seg_len, cellsS, List.length_append, List.length_cons, List.length_nil]; rfl)) (by first | rfl | exact seg_lenE (by rfl) | exact len_app rfl (seg_lenE (by rfl)) (by rfl) | exact len_app (seg_lenE (by rfl)) rfl (by rfl) | exact len_app rfl (len_app (seg_lenE (by rfl)) rfl (by rfl)) (by rfl) | (simp only [seg_len, cellsS, List.length_append, List.length_cons, List.length_nil]; done) | (simp only [seg_len, cellsS, List.length_append, List.length_cons, List.length_nil]; rfl))) (by first | with_reducible exact Wk.refl _ | exact Wk.nil_own _ | exact Wk.nil_pl _ | with_reducible exact Wk.tok _ _ _ | exact Wk.tok _ _ _ | exact .eq rfl) ?_; refine RetL.tmp rfl (.refl _) ?_; refine RetL.tmp rfl (.refl _) ?_; exact RetL.nil) (SubM.of (.nil _) (.nil _)) ⟨rfl, rfl, rfl⟩
                · replace h := h.2 hp486
                  refine xcondF' (not_f (Decidable.of_not_not hp486)) rfl ?_
                  refine xskipc ?_
                  exact xmeet ⟨h, rfl⟩ ⟨(.cons rfl (.refl _) (.cons rfl (.refl _) (.cons rfl (.refl _) (.cons rfl (.refl _) (.cons rfl (.refl _) (.nil _)))))), (SubM.of (.keep rfl rfl (.refl _) (.keep rfl rfl (.refl _) (.nil _))) (.nil _))⟩
              · replace h := h.2 hp485
                refine xsetB 47 (decide_eq_false hp485) rfl ?_
                refine xskip rfl rfl ?_
                refine xskip rfl rfl ?_
                refine xvalP (pv_pick rfl rfl) rfl rfl ?_
                refine xnil ?_
                refine xthen ?_
                refine xcondF rfl ?_
                refine xskipc ?_
                exact xmeet ⟨h, rfl⟩ ⟨(.cons rfl (.refl _) (.cons rfl (.refl _) (.cons rfl (.refl _) (.cons rfl (.refl _) (.cons rfl (.refl _) (.nil _)))))), (SubM.of (.keep rfl rfl (.refl _) (.keep rfl rfl (.refl _) (.nil _))) (.nil _))⟩
            · replace h := h.2 hp481
              refine xsetB 40 (decide_eq_false hp481) rfl ?_
              refine xskip rfl rfl ?_
              refine xskip rfl rfl ?_
              refine xskip rfl rfl ?_
              refine xskip rfl rfl ?_
              refine xskip rfl rfl ?_
              refine xvalP (pv_pick rfl rfl) rfl rfl ?_
              refine xvalP (pv_move rfl) rfl rfl ?_
              refine xskip rfl rfl ?_
              refine xskip rfl rfl ?_
              refine xvalP (pv_pick rfl rfl) rfl rfl ?_
              refine xnil ?_
              refine xthen ?_
              refine xcondF rfl ?_
              refine xskipc ?_
              exact xmeet ⟨h, rfl⟩ ⟨(.cons rfl (.refl _) (.cons rfl (.refl _) (.cons rfl (.refl _) (.cons rfl (.refl _) (.cons rfl (.refl _) (.nil _)))))), (SubM.of (.keep rfl rfl (.refl _) (.keep rfl rfl (.refl _) (.nil _))) (.nil _))⟩
          · clear h
            rintro _ ⟨h, rfl⟩
            refine xseq ?_
            refine xregion ?_
            refine xvalP (pv_move rfl) rfl rfl ?_
            refine xvalP (pv_move rfl) rfl rfl ?_
            obtain ⟨y496, h495, h⟩ := h
            refine xcallF (Fb := [⟨b8, 26, ((List.map ew f342.l).flatten)⟩, ⟨b4, 26, ((List.map ew ((Arr.rep 4 (0 : UInt64))).l).flatten)⟩]) (Ft := []) (brack_part_con x1 x340 _ h495) Try.func11 (by kernel_rfl) rfl (.cons rfl (.refl _) (.cons rfl (.refl _) .nil)) (by exact (SubM.of (by repeat (first | with_reducible exact SubB.refl _ | exact SubB.nil _ | refine SubB.keep rfl rfl (by first | with_reducible exact WkL.refl _ | ((repeat (first | exact WkL.nil | refine WkL.cons (by first | with_reducible exact Wk.refl _ | exact Wk.nil_own _ | exact Wk.nil_pl _ | with_reducible exact Wk.tok _ _ _ | exact Wk.tok _ _ _ | exact Wk.eq (by first | rfl | (simp []; done) | (simp []; omega))) ?_)); done) | exact WkL.refl _) ?_ | refine SubB.drop ?_)) (by repeat (first | exact SubT.nil _ | refine SubT.add ?_ | (refine SubT.keep ?_ ?_; focus (first | with_reducible rfl | (simp []; done))) | refine SubT.drop ?_)))) rfl rfl ?_
            rintro _ _ _ ⟨rfl, rfl, rfl⟩
            simp only [List.nil_append, List.cons_append]
            refine xvalP (pv_move rfl) rfl rfl ?_
            refine xvalP (pv_extract rfl rfl) rfl rfl ?_
            refine xvalP (pv_extract rfl rfl) rfl rfl ?_
            refine xvalP (pv_extract rfl rfl) rfl rfl ?_
            refine xalloc InfC.h rfl rfl fun b10 => ?_
            refine xreb 0 ((List.map ew ((Arr.rep 4 (0 : UInt64))).l).flatten) rfl rfl ?_
            refine xstoreP 0 [] ((List.map ew ((Arr.rep 4 (0 : UInt64))).l).flatten) [] (by first | rfl | exact (List.append_nil _).symm | exact List.append_nil _ | exact List.append_assoc _ _ _ | exact (List.append_assoc _ _ _).symm | exact congrArg _ (List.append_nil _).symm | exact congrArg _ (List.append_nil _) | (simp; done) | (simp [cellsS]; done)) (by first | rfl | exact seg_lenE (by rfl) | exact len_app rfl (seg_lenE (by rfl)) (by rfl) | exact len_app (seg_lenE (by rfl)) rfl (by rfl) | exact len_app rfl (len_app (seg_lenE (by rfl)) rfl (by rfl)) (by rfl) | (simp only [seg_len, cellsS, List.length_append, List.length_cons, List.length_nil]; done) | (simp only [seg_len, cellsS, List.length_append, List.length_cons, List.length_nil]; rfl)) (by first | rfl | exact seg_lenE (by rfl) | exact len_app rfl (seg_lenE (by rfl)) (by rfl) | exact len_app (seg_lenE (by rfl)) rfl (by rfl) | exact len_app rfl (len_app (seg_lenE (by rfl)) rfl (by rfl)) (by rfl) | (simp only [seg_len, cellsS, List.length_append, List.length_cons, List.length_nil]; done) | (simp only [seg_len, cellsS, List.length_append, List.length_cons, List.length_nil]; rfl)) ShpC.h rfl rfl rfl rfl (by first | rfl | exact seg_lenE (by rfl) | exact len_app rfl (seg_lenE (by rfl)) (by rfl) | exact len_app (seg_lenE (by rfl)) rfl (by rfl) | exact len_app rfl (len_app (seg_lenE (by rfl)) rfl (by rfl)) (by rfl) | (simp only [seg_len, cellsS, List.length_append, List.length_cons, List.length_nil]; done) | (simp only [seg_len, cellsS, List.length_append, List.length_cons, List.length_nil]; rfl)) rfl ?_
            refine xreb 0 ((List.map ew y496.1.l).flatten) rfl (by first | rfl | exact (List.append_nil _).symm | exact List.append_nil _ | exact List.append_assoc _ _ _ | exact (List.append_assoc _ _ _).symm | exact congrArg _ (List.append_nil _).symm | exact congrArg _ (List.append_nil _) | (simp; done) | (simp [cellsS]; done)) ?_
            refine xvalP (pv_assign rfl) rfl rfl ?_
            refine xvalP (pv_assign rfl) rfl rfl ?_
            refine xnil ?_
            refine xthen ?_
            refine xseq ?_
            refine xseq ?_
            refine xregion ?_
            refine xvalP (pv_move rfl) rfl rfl ?_
            refine xvalP (pv_bin2 rfl rfl rfl) rfl rfl ?_
            refine xnil ?_
            refine xthen ?_
            by_cases hp500 : ¬ (y496.2.2 = 0)
            · replace h := h.1 hp500
              refine xcondT' (not_t (decide_eq_false hp500)) rfl ?_
              refine xseq ?_
              refine xregion ?_
              refine xvalP (pv_buildAC (cs := ((List.map ew ((Arr.rep 4 (0 : UInt64))).l).flatten)) UndC.h ShpC.h InfC.h rfl (by rfl)) rfl rfl ?_
              refine xvalP (pv_move rfl) rfl rfl ?_
              refine xstoreP 2 [] ((List.map ew ((Arr.rep 4 (0 : UInt64))).l).flatten) [] (by first | rfl | exact (List.append_nil _).symm | exact List.append_nil _ | exact List.append_assoc _ _ _ | exact (List.append_assoc _ _ _).symm | exact congrArg _ (List.append_nil _).symm | exact congrArg _ (List.append_nil _) | (simp; done) | (simp [cellsS]; done)) (by first | rfl | exact seg_lenE (by rfl) | exact len_app rfl (seg_lenE (by rfl)) (by rfl) | exact len_app (seg_lenE (by rfl)) rfl (by rfl) | exact len_app rfl (len_app (seg_lenE (by rfl)) rfl (by rfl)) (by rfl) | (simp only [seg_len, cellsS, List.length_append, List.length_cons, List.length_nil]; done) | (simp only [seg_len, cellsS, List.length_append, List.length_cons, List.length_nil]; rfl)) (by first | rfl | exact seg_lenE (by rfl) | exact len_app rfl (seg_lenE (by rfl)) (by rfl) | exact len_app (seg_lenE (by rfl)) rfl (by rfl) | exact len_app rfl (len_app (seg_lenE (by rfl)) rfl (by rfl)) (by rfl) | (simp only [seg_len, cellsS, List.length_append, List.length_cons, List.length_nil]; done) | (simp only [seg_len, cellsS, List.length_append, List.length_cons, List.length_nil]; rfl)) ShpC.h rfl rfl rfl rfl (by first | rfl | exact seg_lenE (by rfl) | exact len_app rfl (seg_lenE (by rfl)) (by rfl) | exact len_app (seg_lenE (by rfl)) rfl (by rfl) | exact len_app rfl (len_app (seg_lenE (by rfl)) rfl (by rfl)) (by rfl) | (simp only [seg_len, cellsS, List.length_append, List.length_cons, List.length_nil]; done) | (simp only [seg_len, cellsS, List.length_append, List.length_cons, List.length_nil]; rfl)) rfl ?_
              refine xreb 2 ((List.map ew ((Arr.rep 4 (0 : UInt64))).l).flatten) rfl (by first | rfl | exact (List.append_nil _).symm | exact List.append_nil _ | exact List.append_assoc _ _ _ | exact (List.append_assoc _ _ _).symm | exact congrArg _ (List.append_nil _).symm | exact congrArg _ (List.append_nil _) | (simp; done) | (simp [cellsS]; done)) ?_
              refine xvalP (pv_assign rfl) rfl rfl ?_
              refine xvalP (pv_assign rfl) rfl rfl ?_
              refine xnil ?_
              refine xthen ?_
              refine xretc ?_
              refine xthen_ret ?_
              refine xin_ret ?_
              refine xthen_ret ?_
              refine xthen_ret ?_
              refine xin_ret ?_
              refine xthen_ret ?_
              replace h := h.symm
              subst h
              exact xretL (rs := [.cell 4 26, .tmp 5, .tmp 6]) (ss := [.agg ((List.map ew ((Arr.rep 4 (0 : UInt64))).l).flatten), .v (.int .i64 0), .v (.int .i64 y496.2.2)]) hg rfl (by refine RetL.cell 2 ShpC.h rfl rfl (part_midE (pre := []) (mid := ((List.map ew ((Arr.rep 4 (0 : UInt64))).l).flatten)) (post := []) (by first | rfl | exact (List.append_nil _).symm | exact List.append_nil _ | exact List.append_assoc _ _ _ | exact (List.append_assoc _ _ _).symm | exact congrArg _ (List.append_nil _).symm | exact congrArg _ (List.append_nil _) | (simp; done) | (simp [cellsS]; done)) (by first | rfl | exact seg_lenE (by rfl) | exact len_app rfl (seg_lenE (by rfl)) (by rfl) | exact len_app (seg_lenE (by rfl)) rfl (by rfl) | exact len_app rfl (len_app (seg_lenE (by rfl)) rfl (by rfl)) (by rfl) | (simp only [seg_len, cellsS, List.length_append, List.length_cons, List.length_nil]; done) | (simp only [seg_len, cellsS, List.length_append, List.length_cons, List.length_nil]; rfl)) (by first | rfl | exact seg_lenE (by rfl) | exact len_app rfl (seg_lenE (by rfl)) (by rfl) | exact len_app (seg_lenE (by rfl)) rfl (by rfl) | exact len_app rfl (len_app (seg_lenE (by rfl)) rfl (by rfl)) (by rfl) | (simp only [seg_len, cellsS, List.length_append, List.length_cons, List.length_nil]; done) | (simp only [seg_len, cellsS, List.length_append, List.length_cons, List.length_nil]; rfl)) (part_all (seg_lenE (by rfl)))) (len_midE (pre := []) (mid := ((List.map ew ((Arr.rep 4 (0 : UInt64))).l).flatten)) (post := []) (by first | rfl | exact (List.append_nil _).symm | exact List.append_nil _ | exact List.append_assoc _ _ _ | exact (List.append_assoc _ _ _).symm | exact congrArg _ (List.append_nil _).symm | exact congrArg _ (List.append_nil _) | (simp; done) | (simp [cellsS]; done)) (by first | rfl | exact seg_lenE (by rfl) | exact len_app rfl (seg_lenE (by rfl)) (by rfl) | exact len_app (seg_lenE (by rfl)) rfl (by rfl) | exact len_app rfl (len_app (seg_lenE (by rfl)) rfl (by rfl)) (by rfl) | (simp only [seg_len, cellsS, List.length_append, List.length_cons, List.length_nil]; done) | (simp only [seg_len, cellsS, List.length_append, List.length_cons, List.length_nil]; rfl)) (by first | rfl | exact seg_lenE (by rfl) | exact len_app rfl (seg_lenE (by rfl)) (by rfl) | exact len_app (seg_lenE (by rfl)) rfl (by rfl) | exact len_app rfl (len_app (seg_lenE (by rfl)) rfl (by rfl)) (by rfl) | (simp only [seg_len, cellsS, List.length_append, List.length_cons, List.length_nil]; done) | (simp only [seg_len, cellsS, List.length_append, List.length_cons, List.length_nil]; rfl))) (by first | with_reducible exact Wk.refl _ | exact Wk.nil_own _ | exact Wk.nil_pl _ | with_reducible exact Wk.tok _ _ _ | exact Wk.tok _ _ _ | exact .eq rfl) ?_; refine RetL.tmp rfl (.refl _) ?_; refine RetL.tmp rfl (.refl _) ?_; exact RetL.nil) (SubM.of (.nil _) (.nil _)) ⟨rfl, rfl, rfl⟩
            · replace h := h.2 hp500
              refine xcondF' (not_f (decide_eq_true (Decidable.of_not_not hp500))) rfl ?_
              refine xskipc ?_
              refine xthen ?_
              refine xregion ?_
              refine xval (qv_loadP 1 [] ((List.map ew f342.l).flatten) [] (by first | rfl | exact (List.append_nil _).symm | exact List.append_nil _ | exact List.append_assoc _ _ _ | exact (List.append_assoc _ _ _).symm | exact congrArg _ (List.append_nil _).symm | exact congrArg _ (List.append_nil _) | (simp; done) | (simp [cellsS]; done)) (by first | rfl | exact seg_lenE (by rfl) | exact len_app rfl (seg_lenE (by rfl)) (by rfl) | exact len_app (seg_lenE (by rfl)) rfl (by rfl) | exact len_app rfl (len_app (seg_lenE (by rfl)) rfl (by rfl)) (by rfl) | (simp only [seg_len, cellsS, List.length_append, List.length_cons, List.length_nil]; done) | (simp only [seg_len, cellsS, List.length_append, List.length_cons, List.length_nil]; rfl)) (by first | rfl | exact seg_lenE (by rfl) | exact len_app rfl (seg_lenE (by rfl)) (by rfl) | exact len_app (seg_lenE (by rfl)) rfl (by rfl) | exact len_app rfl (len_app (seg_lenE (by rfl)) rfl (by rfl)) (by rfl) | (simp only [seg_len, cellsS, List.length_append, List.length_cons, List.length_nil]; done) | (simp only [seg_len, cellsS, List.length_append, List.length_cons, List.length_nil]; rfl)) (part_all (seg_lenE (by rfl))) ShpC.h rfl rfl) rfl rfl ?_
              refine xval (qv_loadP 0 [] ((List.map ew y496.1.l).flatten) [] (by first | rfl | exact (List.append_nil _).symm | exact List.append_nil _ | exact List.append_assoc _ _ _ | exact (List.append_assoc _ _ _).symm | exact congrArg _ (List.append_nil _).symm | exact congrArg _ (List.append_nil _) | (simp; done) | (simp [cellsS]; done)) (by first | rfl | exact seg_lenE (by rfl) | exact len_app rfl (seg_lenE (by rfl)) (by rfl) | exact len_app (seg_lenE (by rfl)) rfl (by rfl) | exact len_app rfl (len_app (seg_lenE (by rfl)) rfl (by rfl)) (by rfl) | (simp only [seg_len, cellsS, List.length_append, List.length_cons, List.length_nil]; done) | (simp only [seg_len, cellsS, List.length_append, List.length_cons, List.length_nil]; rfl)) (by first | rfl | exact seg_lenE (by rfl) | exact len_app rfl (seg_lenE (by rfl)) (by rfl) | exact len_app (seg_lenE (by rfl)) rfl (by rfl) | exact len_app rfl (len_app (seg_lenE (by rfl)) rfl (by rfl)) (by rfl) | (simp only [seg_len, cellsS, List.length_append, List.length_cons, List.length_nil]; done) | (simp only [seg_len, cellsS, List.length_append, List.length_cons, List.length_nil]; rfl)) (part_all (seg_lenE (by rfl))) ShpC.h rfl rfl) rfl rfl ?_
              refine xbuildSliceME (f := E_palinode_api_Set) [f342, y496.1] UndC.h InfC.h rfl (.cons rfl (beq_of (seg_lenE (by rfl))) rfl rfl (.cons rfl (beq_of (seg_lenE (by rfl))) rfl rfl .nil)) (by first | exact wkR_of rfl | (repeat (first | exact WkR.nil | refine WkR.cons (by (repeat (first | exact WkL.nil | refine WkL.cons (by first | with_reducible exact Wk.refl _ | exact Wk.nil_own _ | exact Wk.nil_pl _ | with_reducible exact Wk.tok _ _ _ | exact Wk.tok _ _ _ | exact Wk.eq (by first | rfl | (simp []; done) | (simp []; omega))) ?_))) ?_))) rfl rfl rfl rfl fun s64 => ?_
              obtain ⟨y502, h501, h⟩ := h
              refine xcall0 (class_Union_con ([f342, y496.1]) _ h501) Try.func12 (by kernel_rfl) rfl (.cons rfl (.tok _ _ _) .nil) rfl rfl ?_
              refine xvalP (pv_move rfl) rfl rfl ?_
              refine xstoreP 1 [] ((List.map ew f342.l).flatten) [] (by first | rfl | exact (List.append_nil _).symm | exact List.append_nil _ | exact List.append_assoc _ _ _ | exact (List.append_assoc _ _ _).symm | exact congrArg _ (List.append_nil _).symm | exact congrArg _ (List.append_nil _) | (simp; done) | (simp [cellsS]; done)) (by first | rfl | exact seg_lenE (by rfl) | exact len_app rfl (seg_lenE (by rfl)) (by rfl) | exact len_app (seg_lenE (by rfl)) rfl (by rfl) | exact len_app rfl (len_app (seg_lenE (by rfl)) rfl (by rfl)) (by rfl) | (simp only [seg_len, cellsS, List.length_append, List.length_cons, List.length_nil]; done) | (simp only [seg_len, cellsS, List.length_append, List.length_cons, List.length_nil]; rfl)) (by first | rfl | exact seg_lenE (by rfl) | exact len_app rfl (seg_lenE (by rfl)) (by rfl) | exact len_app (seg_lenE (by rfl)) rfl (by rfl) | exact len_app rfl (len_app (seg_lenE (by rfl)) rfl (by rfl)) (by rfl) | (simp only [seg_len, cellsS, List.length_append, List.length_cons, List.length_nil]; done) | (simp only [seg_len, cellsS, List.length_append, List.length_cons, List.length_nil]; rfl)) ShpC.h rfl rfl rfl rfl (by first | rfl | exact seg_lenE (by rfl) | exact len_app rfl (seg_lenE (by rfl)) (by rfl) | exact len_app (seg_lenE (by rfl)) rfl (by rfl) | exact len_app rfl (len_app (seg_lenE (by rfl)) rfl (by rfl)) (by rfl) | (simp only [seg_len, cellsS, List.length_append, List.length_cons, List.length_nil]; done) | (simp only [seg_len, cellsS, List.length_append, List.length_cons, List.length_nil]; rfl)) rfl ?_
              refine xreb 1 ((List.map ew y502.l).flatten) rfl (by first | rfl | exact (List.append_nil _).symm | exact List.append_nil _ | exact List.append_assoc _ _ _ | exact (List.append_assoc _ _ _).symm | exact congrArg _ (List.append_nil _).symm | exact congrArg _ (List.append_nil _) | (simp; done) | (simp [cellsS]; done)) ?_
              refine xvalP (pv_assign rfl) rfl rfl ?_
              refine xnil ?_
              refine xin_normal ?_
              refine xthen ?_
              refine xregion ?_
              refine xvalP (pv_assign rfl) rfl rfl ?_
              refine xnil ?_
              obtain ⟨m', hm, hI⟩ := hag4 _ h
              exact xagain ⟨y496.2.1, false, y502, hI, rfl⟩ hm ⟨(.cons rfl (.refl _) (.cons rfl (.refl _) (.cons rfl (.refl _) (.cons rfl (.refl _) (.cons rfl (.refl _) (.cons rfl (.refl _) (.nil _))))))), (SubM.of (.drop (.keep rfl rfl (.refl _) (.keep rfl rfl (.refl _) (.nil _)))) (.nil _))⟩
/-- palinoderef05.Has -/
def palinoderef05_Has_l1 (c2 : UInt8) (ag1 : (UInt64 × UInt8) → Prop) (w57 : UInt64) (iv58 : UInt8) (r : Bool) : Prop :=
  (64 : Int) ≠ 0 ∧ ∃ c76 : UInt8, (c76.toNat : Int) = (((c2.toNat : Int)).tmod 64) ∧ (((iv58.toNat : Int) < (c76.toNat : Int) → (2 : Int) ≠ 0 ∧ ∃ c80 : UInt64, (c80.toNat : Int) = IntKind.u64.wrap (((w57.toNat : Int)).tdiv 2) ∧ ∃ c82 : UInt8, (c82.toNat : Int) = IntKind.u8.wrap ((iv58.toNat : Int) + 1) ∧ ag1 (c80, c82)) ∧ (¬ ((iv58.toNat : Int) < (c76.toNat : Int)) → (2 : Int) ≠ 0 ∧ ∃ c84 : UInt64, (c84.toNat : Int) = (((w57.toNat : Int)).tmod 2) ∧ r = (decide ((c84.toNat : Int) = 1))))
def palinoderef05_Has_R (sv1 : Arr 4 (UInt64)) (c2 : UInt8) (r : Bool) : Prop :=
  (64 : Int) ≠ 0 ∧ ∃ c4 : UInt8, (c4.toNat : Int) = IntKind.u8.wrap (((c2.toNat : Int)).tdiv 64) ∧ (0 ≤ ((c4.toNat : Int) : Int) ∧ ((c4.toNat : Int) : Int) < 4) ∧ ∃ y6 : UInt64, sv1.l[((c4.toNat : Int) : Int).toNat]? = some y6 ∧ LoopR (fun ag1 s => palinoderef05_Has_l1 c2 ag1 s.1 s.2 r) (y6, (0 : UInt8))
def palinoderef05_Has_l1_ev (fuel : Nat) (c2 : UInt8) (ag1e : (UInt64 × UInt8) → Option (Bool)) (w57 : UInt64) (iv58 : UInt8) : Option (Bool) :=
  (if (64 : Int) ≠ 0 then (exB ((((c2.toNat : Int)).tmod 64)) fun c76 => (if (iv58.toNat : Int) < (c76.toNat : Int) then (if (2 : Int) ≠ 0 then (exL (IntKind.u64.wrap (((w57.toNat : Int)).tdiv 2)) fun c80 => (exB (IntKind.u8.wrap ((iv58.toNat : Int) + 1)) fun c82 => ag1e (c80, c82))) else none) else (if (2 : Int) ≠ 0 then (exL ((((w57.toNat : Int)).tmod 2)) fun c84 => some (decide ((c84.toNat : Int) = 1))) else none))) else none)
theorem palinoderef05_Has_l1_ok {fuel : Nat} {c2 : UInt8} {ag1e : (UInt64 × UInt8) → Option (Bool)} {ag1 : (UInt64 × UInt8) → Prop} {w57 : UInt64} {iv58 : UInt8} {r : Bool} (hagag1 : ∀ s, ag1e s = some r → ag1 s) (h : palinoderef05_Has_l1_ev fuel c2 ag1e w57 iv58 = some r) : palinoderef05_Has_l1 c2 ag1 w57 iv58 r := by
  unfold palinoderef05_Has_l1_ev at h
  unfold palinoderef05_Has_l1
  obtain ⟨g170, h⟩ := if_ok h
  refine ⟨g170, ?_⟩
  obtain ⟨q171, g171, h⟩ := exB_ok h
  refine ⟨q171, g171, ?_⟩
  refine ⟨fun g172 => ?_, fun g172 => ?_⟩
  · rw [if_pos g172] at h
    obtain ⟨g173, h⟩ := if_ok h
    refine ⟨g173, ?_⟩
    obtain ⟨q174, g174, h⟩ := exL_ok h
    refine ⟨q174, g174, ?_⟩
    obtain ⟨q175, g175, h⟩ := exB_ok h
    refine ⟨q175, g175, ?_⟩
    exact hagag1 _ h
  · rw [if_neg g172] at h
    obtain ⟨g176, h⟩ := if_ok h
    refine ⟨g176, ?_⟩
    obtain ⟨q177, g177, h⟩ := exL_ok h
    refine ⟨q177, g177, ?_⟩
    exact (Option.some.inj h).symm
def palinoderef05_Has_ev (fuel : Nat) (sv1 : Arr 4 (UInt64)) (c2 : UInt8) : Option (Bool) :=
  (if (64 : Int) ≠ 0 then (exB (IntKind.u8.wrap (((c2.toNat : Int)).tdiv 64)) fun c4 => (if (0 ≤ ((c4.toNat : Int) : Int) ∧ ((c4.toNat : Int) : Int) < 4) then ((sv1.l[((c4.toNat : Int) : Int).toNat]?).bind fun y6 => (loopE (fun ag1e s => palinoderef05_Has_l1_ev fuel c2 ag1e s.1 s.2) fuel (y6, (0 : UInt8)))) else none)) else none)
theorem palinoderef05_Has_ok {fuel : Nat} {sv1 : Arr 4 (UInt64)} {c2 : UInt8} {r : Bool} (h : palinoderef05_Has_ev fuel sv1 c2 = some r) : palinoderef05_Has_R sv1 c2 r := by
  unfold palinoderef05_Has_ev at h
  unfold palinoderef05_Has_R
  obtain ⟨g178, h⟩ := if_ok h
  refine ⟨g178, ?_⟩
  obtain ⟨q179, g179, h⟩ := exB_ok h
  refine ⟨q179, g179, ?_⟩
  obtain ⟨g180, h⟩ := if_ok h
  refine ⟨g180, ?_⟩
  obtain ⟨q181, g181, h⟩ := bind_ok h
  refine ⟨q181, g181, ?_⟩
  refine loopE_ok ?_ h
  intro ae ag s hag h
  exact palinoderef05_Has_l1_ok hag h
set_option maxHeartbeats 4000000 in
theorem palinoderef05_Has_con (sv1 : Arr 4 (UInt64)) (c2 : UInt8) (r : Bool) (h : palinoderef05_Has_R sv1 c2 r) : Con Try.prog 21 [.agg ((List.map ew sv1.l).flatten), .v (.int .u8 ((c2.toNat : Int)))] [] [] (Ret (.v (.bool r))) := by
  refine xenter Try.func21 rfl rfl fun g hg => ?_
  simp only [Try.ntmps21, slots]
  refine xseq ?_
  refine xregion ?_
  refine xbox rfl rfl rfl rfl fun b2 => ?_
  refine xvalP (pv_assign rfl) rfl rfl ?_
  refine xnil ?_
  refine xthen ?_
  refine xseq ?_
  refine xregion ?_
  refine xvalP (pv_move rfl) rfl rfl ?_
  obtain ⟨h3, h⟩ := h
  obtain ⟨c4, h3r, h⟩ := h
  refine xvalP (pv_quoW h3 h3r rfl rfl rfl) rfl rfl ?_
  obtain ⟨h5, h⟩ := h
  obtain ⟨y6, h5b, h⟩ := h
  refine xvalP (pv_indexAddrBA h5 UndC.h ShpC.h rfl rfl) rfl rfl ?_
  refine xval (qv_loadA (f := ew) (a := sv1) (k := 1) (off := 0) (i := ((c4.toNat : Int) : Int).toNat) 0 [] [] h5b (by first | rfl | exact (List.append_nil _).symm | exact List.append_nil _ | exact List.append_assoc _ _ _ | exact (List.append_assoc _ _ _).symm | exact congrArg _ (List.append_nil _).symm | exact congrArg _ (List.append_nil _) | (simp; done) | (simp [cellsS]; done)) (by first | rfl | omega | (simp only [List.length_cons, List.length_nil]; omega) | (simp only [seg_len, List.length_append, List.length_cons, List.length_nil]; omega)) (by decide) rfl ShpC.h rfl rfl) rfl rfl ?_
  refine xvalP (pv_assign rfl) rfl rfl ?_
  refine xnil ?_
  refine xthen ?_
  refine xseq ?_
  refine xseq ?_
  refine xregion ?_
  refine xvalP (pv_assign rfl) rfl rfl ?_
  refine xnil ?_
  refine xthen ?_
  refine xblock ?_
  obtain ⟨Inv, ⟨m0, hI⟩, hS⟩ := h
  refine xloop (fun σ m => ∃ (w57 : UInt64), ∃ (iv58 : UInt8), Inv (w57, iv58) m ∧ σ = ⟨[(1, .v (.int .u8 ((c2.toNat : Int)))), (5, .v (.int .u64 ((w57.toNat : Int)))), (6, .v (.int .u8 ((iv58.toNat : Int))))], [], []⟩) ⟨y6, (0 : UInt8), hI, rfl⟩ ⟨(.cons rfl (.refl _) (.cons rfl (.refl _) (.cons rfl (.refl _) (.nil _)))), (SubM.of (.nil _) (.nil _))⟩ ?_
  rintro _ m ⟨w57, iv58, hI, rfl⟩
  obtain ⟨ag1, hag1, h⟩ : ∃ ag, (∀ s', ag s' → ∃ m', m' < m ∧ Inv s' m') ∧ palinoderef05_Has_l1 c2 ag w57 iv58 r := ⟨_, fun _ h => h, hS (w57, iv58) _ hI⟩
  clear hS hI
  refine xseq ?_
  refine xseq ?_
  refine xregion ?_
  refine xvalP (pv_move rfl) rfl rfl ?_
  refine xvalP (pv_move rfl) rfl rfl ?_
  obtain ⟨h75, h⟩ := h
  obtain ⟨c76, h75r, h⟩ := h
  refine xvalP (pv_remW h75 h75r rfl rfl rfl) rfl rfl ?_
  refine xvalP (pv_bin2 rfl rfl rfl) rfl rfl ?_
  refine xnil ?_
  refine xthen ?_
  by_cases hp78 : (iv58.toNat : Int) < (c76.toNat : Int)
  · replace h := h.1 hp78
    refine xcondT' (decide_eq_true hp78) rfl ?_
    refine xskipc ?_
    refine xthen ?_
    refine xseq ?_
    refine xblock ?_
    refine xregion ?_
    refine xvalP (pv_move rfl) rfl rfl ?_
    obtain ⟨h79, h⟩ := h
    obtain ⟨c80, h79r, h⟩ := h
    refine xvalP (pv_quoW h79 h79r rfl rfl rfl) rfl rfl ?_
    refine xvalP (pv_assign rfl) rfl rfl ?_
    refine xnil ?_
    refine xin_normal ?_
    refine xthen ?_
    refine xregion ?_
    refine xvalP (pv_move rfl) rfl rfl ?_
    obtain ⟨c82, h81, h⟩ := h
    refine xvalP (pv_wr h81 rfl rfl rfl) rfl rfl ?_
    refine xvalP (pv_assign rfl) rfl rfl ?_
    refine xnil ?_
    obtain ⟨m', hm, hI⟩ := hag1 _ h
    exact xagain ⟨c80, c82, hI, rfl⟩ hm ⟨(.cons rfl (.refl _) (.cons rfl (.refl _) (.cons rfl (.refl _) (.nil _)))), (SubM.of (.nil _) (.nil _))⟩
  · replace h := h.2 hp78
    refine xcondF' (decide_eq_false hp78) rfl ?_
    refine xexit ?_
    refine xthen_exit ?_
    refine xthen_exit ?_
    refine xin_same rfl ?_
    refine xthen ?_
    refine xseq ?_
    refine xregion ?_
    refine xvalP (pv_move rfl) rfl rfl ?_
    obtain ⟨h83, h⟩ := h
    obtain ⟨c84, h83r, h⟩ := h
    refine xvalP (pv_remW h83 h83r rfl rfl rfl) rfl rfl ?_
    refine xvalP (pv_bin2 rfl rfl rfl) rfl rfl ?_
    refine xvalP (pv_assign rfl) rfl rfl ?_
    refine xnil ?_
    refine xthen ?_
    refine xretc ?_
    replace h := h.symm
    subst h
    exact xret1 hg rfl rfl (.refl _) (SubM.of (.nil _) (.nil _)) ⟨rfl, rfl, rfl⟩
/-- palinoderef05.Bytes -/
def palinoderef05_Bytes_j2 (c107 : Int) (ag1 : ((List UInt8) × Int) → Prop) (out146 : List UInt8) (r : (List UInt8)) : Prop :=
  InR (c107 + 1) ∧ ag1 (out146, (c107 + 1))
def palinoderef05_Bytes_l1 (sv1 : Arr 4 (UInt64)) (ag1 : ((List UInt8) × Int) → Prop) (out105 : List UInt8) (c107 : Int) (r : (List UInt8)) : Prop :=
  ((c107 < 256 → ∃ c149 : UInt8, (c149.toNat : Int) = IntKind.u8.wrap c107 ∧ ∃ y151 : Bool, palinoderef05_Has_R sv1 c149 y151 ∧ ((y151 = true → ∃ c154 : UInt8, (c154.toNat : Int) = IntKind.u8.wrap c107 ∧ Room (out105.length + ([c154]).length) 1 ∧ palinoderef05_Bytes_j2 c107 ag1 (out105 ++ [c154]) r) ∧ (¬ (y151 = true) → palinoderef05_Bytes_j2 c107 ag1 out105 r))) ∧ (¬ (c107 < 256) → r = out105))
def palinoderef05_Bytes_R (sv1 : Arr 4 (UInt64)) (r : (List UInt8)) : Prop :=
  LoopR (fun ag1 s => palinoderef05_Bytes_l1 sv1 ag1 s.1 s.2 r) (([] : List UInt8), 0)
def palinoderef05_Bytes_j2_ev (fuel : Nat) (c107 : Int) (ag1e : ((List UInt8) × Int) → Option ((List UInt8))) (out146 : List UInt8) : Option ((List UInt8)) :=
  (if InR (c107 + 1) then ag1e (out146, (c107 + 1)) else none)
theorem palinoderef05_Bytes_j2_ok {fuel : Nat} {c107 : Int} {ag1 : ((List UInt8) × Int) → Prop} {ag1e : ((List UInt8) × Int) → Option ((List UInt8))} {out146 : List UInt8} {r : (List UInt8)} (hagag1 : ∀ s, ag1e s = some r → ag1 s) (h : palinoderef05_Bytes_j2_ev fuel c107 ag1e out146 = some r) : palinoderef05_Bytes_j2 c107 ag1 out146 r := by
  unfold palinoderef05_Bytes_j2_ev at h
  unfold palinoderef05_Bytes_j2
  obtain ⟨g182, h⟩ := if_ok h
  refine ⟨g182, ?_⟩
  exact hagag1 _ h
def palinoderef05_Bytes_l1_ev (fuel : Nat) (sv1 : Arr 4 (UInt64)) (ag1e : ((List UInt8) × Int) → Option ((List UInt8))) (out105 : List UInt8) (c107 : Int) : Option ((List UInt8)) :=
  (if c107 < 256 then (exB (IntKind.u8.wrap c107) fun c149 => ((palinoderef05_Has_ev fuel sv1 c149).bind fun y151 => (if y151 = true then (exB (IntKind.u8.wrap c107) fun c154 => (if Room (out105.length + ([c154]).length) 1 then palinoderef05_Bytes_j2_ev fuel c107 ag1e (out105 ++ [c154]) else none)) else palinoderef05_Bytes_j2_ev fuel c107 ag1e out105))) else some out105)
theorem palinoderef05_Bytes_l1_ok {fuel : Nat} {sv1 : Arr 4 (UInt64)} {ag1e : ((List UInt8) × Int) → Option ((List UInt8))} {ag1 : ((List UInt8) × Int) → Prop} {out105 : List UInt8} {c107 : Int} {r : (List UInt8)} (hagag1 : ∀ s, ag1e s = some r → ag1 s) (h : palinoderef05_Bytes_l1_ev fuel sv1 ag1e out105 c107 = some r) : palinoderef05_Bytes_l1 sv1 ag1 out105 c107 r := by
  unfold palinoderef05_Bytes_l1_ev at h
  unfold palinoderef05_Bytes_l1
  refine ⟨fun g183 => ?_, fun g183 => ?_⟩
  · rw [if_pos g183] at h
    obtain ⟨q184, g184, h⟩ := exB_ok h
    refine ⟨q184, g184, ?_⟩
    obtain ⟨q185, g185, h⟩ := bind_ok h
    refine ⟨q185, palinoderef05_Has_ok g185, ?_⟩
    refine ⟨fun g186 => ?_, fun g186 => ?_⟩
    · rw [if_pos g186] at h
      obtain ⟨q187, g187, h⟩ := exB_ok h
      refine ⟨q187, g187, ?_⟩
      obtain ⟨g188, h⟩ := if_ok h
      refine ⟨g188, ?_⟩
      exact palinoderef05_Bytes_j2_ok hagag1 h
    · rw [if_neg g186] at h
      exact palinoderef05_Bytes_j2_ok hagag1 h
  · rw [if_neg g183] at h
    exact (Option.some.inj h).symm
def palinoderef05_Bytes_ev (fuel : Nat) (sv1 : Arr 4 (UInt64)) : Option ((List UInt8)) :=
  (loopE (fun ag1e s => palinoderef05_Bytes_l1_ev fuel sv1 ag1e s.1 s.2) fuel (([] : List UInt8), 0))
theorem palinoderef05_Bytes_ok {fuel : Nat} {sv1 : Arr 4 (UInt64)} {r : (List UInt8)} (h : palinoderef05_Bytes_ev fuel sv1 = some r) : palinoderef05_Bytes_R sv1 r := by
  unfold palinoderef05_Bytes_ev at h
  unfold palinoderef05_Bytes_R
  refine loopE_ok ?_ h
  intro ae ag s hag h
  exact palinoderef05_Bytes_l1_ok hag h
set_option maxHeartbeats 4000000 in
theorem palinoderef05_Bytes_con (sv1 : Arr 4 (UInt64)) (r : (List UInt8)) (h : palinoderef05_Bytes_R sv1 r) : Con Try.prog 10 [.agg ((List.map ew sv1.l).flatten)] [] [] (RetM 1 5 eb r) := by
  refine xenter Try.func10 rfl rfl fun g hg => ?_
  simp only [Try.ntmps10, slots]
  refine xseq ?_
  refine xregion ?_
  refine xbox rfl rfl rfl rfl fun b1 => ?_
  refine xvalP (pv_assign rfl) rfl rfl ?_
  refine xnil ?_
  refine xthen ?_
  refine xseq ?_
  refine xregion ?_
  refine xvalP (pv_assign rfl) rfl rfl ?_
  refine xnil ?_
  refine xthen ?_
  refine xseq ?_
  refine xseq ?_
  refine xregion ?_
  refine xvalP (pv_assign rfl) rfl rfl ?_
  refine xnil ?_
  refine xthen ?_
  refine xblock ?_
  obtain ⟨Inv, ⟨m0, hI⟩, hS⟩ := h
  refine xloop (fun σ m => ∃ (out105 : List UInt8), ∃ (c107 : Int), ∃ (i106 : Option (Nat × Nat)), Inv (out105, c107) m ∧ σ = ⟨[(1, .v (.pointer (some ⟨b1, 0, none⟩))), (3, .sl 1 (some i106) (List.map eb out105)), (4, .v (.int .i64 c107))], [⟨b1, 26, ((List.map ew sv1.l).flatten)⟩], [⟨i106, 5, 1, out105.length⟩]⟩) ⟨([] : List UInt8), 0, none, hI, rfl⟩ ⟨(.cons rfl (.refl _) (.cons rfl (.nil_own _) (.cons rfl (.refl _) (.nil _)))), (SubM.of (.keep rfl rfl (.refl _) (.nil _)) (.add (.nil _)))⟩ ?_
  rintro _ m ⟨out105, c107, i106, hI, rfl⟩
  obtain ⟨ag1, hag1, h⟩ : ∃ ag, (∀ s', ag s' → ∃ m', m' < m ∧ Inv s' m') ∧ palinoderef05_Bytes_l1 sv1 ag out105 c107 r := ⟨_, fun _ h => h, hS (out105, c107) _ hI⟩
  clear hS hI
  refine xseq ?_
  refine xseq ?_
  refine xregion ?_
  refine xvalP (pv_move rfl) rfl rfl ?_
  refine xvalP (pv_bin2 rfl rfl rfl) rfl rfl ?_
  refine xnil ?_
  refine xthen ?_
  by_cases hp136 : c107 < 256
  · replace h := h.1 hp136
    refine xcondT' (decide_eq_true hp136) rfl ?_
    refine xskipc ?_
    refine xthen ?_
    refine xseqM (fun σ => ∃ (out146 : List UInt8), ∃ (i147 : Option (Nat × Nat)), palinoderef05_Bytes_j2 c107 ag1 out146 r ∧ σ = ⟨[(1, .v (.pointer (some ⟨b1, 0, none⟩))), (3, .sl 1 (some i147) (List.map eb out146)), (4, .v (.int .i64 c107))], [⟨b1, 26, ((List.map ew sv1.l).flatten)⟩], [⟨i147, 5, 1, out146.length⟩]⟩) ?_ ?_
    · refine xblock ?_
      refine xseq ?_
      refine xregion ?_
      refine xval (qv_loadP 0 [] ((List.map ew sv1.l).flatten) [] (by first | rfl | exact (List.append_nil _).symm | exact List.append_nil _ | exact List.append_assoc _ _ _ | exact (List.append_assoc _ _ _).symm | exact congrArg _ (List.append_nil _).symm | exact congrArg _ (List.append_nil _) | (simp; done) | (simp [cellsS]; done)) (by first | rfl | exact seg_lenE (by rfl) | exact len_app rfl (seg_lenE (by rfl)) (by rfl) | exact len_app (seg_lenE (by rfl)) rfl (by rfl) | exact len_app rfl (len_app (seg_lenE (by rfl)) rfl (by rfl)) (by rfl) | (simp only [seg_len, cellsS, List.length_append, List.length_cons, List.length_nil]; done) | (simp only [seg_len, cellsS, List.length_append, List.length_cons, List.length_nil]; rfl)) (by first | rfl | exact seg_lenE (by rfl) | exact len_app rfl (seg_lenE (by rfl)) (by rfl) | exact len_app (seg_lenE (by rfl)) rfl (by rfl) | exact len_app rfl (len_app (seg_lenE (by rfl)) rfl (by rfl)) (by rfl) | (simp only [seg_len, cellsS, List.length_append, List.length_cons, List.length_nil]; done) | (simp only [seg_len, cellsS, List.length_append, List.length_cons, List.length_nil]; rfl)) (part_all (seg_lenE (by rfl))) ShpC.h rfl rfl) rfl rfl ?_
      refine xvalP (pv_move rfl) rfl rfl ?_
      obtain ⟨c149, h148, h⟩ := h
      refine xvalP (pv_convW h148 UndC.h UndC.h rfl) rfl rfl ?_
      obtain ⟨y151, h150, h⟩ := h
      refine xcall0 (palinoderef05_Has_con sv1 c149 _ h150) Try.func21 (by kernel_rfl) rfl (.cons rfl (.refl _) (.cons rfl (.refl _) .nil)) rfl rfl ?_
      refine xnil ?_
      refine xthen ?_
      by_cases hp152 : y151 = true
      · replace h := h.1 hp152
        refine xcondT' hp152 rfl ?_
        refine xregion ?_
        refine xvalP (pv_move rfl) rfl rfl ?_
        refine xvalP (pv_move rfl) rfl rfl ?_
        obtain ⟨c154, h153, h⟩ := h
        refine xvalP (pv_convW h153 UndC.h UndC.h rfl) rfl rfl ?_
        refine xbuildSliceM (f := eb) [c154] UndC.h InfC.h rfl rfl (by first | exact wkR_of rfl | (repeat (first | exact WkR.nil | refine WkR.cons (by (repeat (first | exact WkL.nil | refine WkL.cons (by first | with_reducible exact Wk.refl _ | exact Wk.nil_own _ | exact Wk.nil_pl _ | with_reducible exact Wk.tok _ _ _ | exact Wk.tok _ _ _ | exact Wk.eq (by first | rfl | (simp []; done) | (simp []; omega))) ?_))) ?_))) rfl rfl rfl rfl fun s16 => ?_
        obtain ⟨h155, h⟩ := h
        refine xappendM (l := out105) (l2 := [c154]) 1 h155 UndC.h InfC.h rfl rfl rfl (.refl _) rfl rfl rfl fun i156 => ?_
        refine xvalP (pv_assign rfl) rfl rfl ?_
        refine xnil ?_
        refine xin_normal ?_
        exact xmeet ⟨(out105 ++ [c154]), i156, h, rfl⟩ ⟨(.cons rfl (.refl _) (.cons rfl (.refl _) (.cons rfl (.refl _) (.nil _)))), (SubM.of (.keep rfl rfl (.refl _) (.nil _)) (.drop (.keep rfl (.nil _))))⟩
      · replace h := h.2 hp152
        refine xcondF' (b_f hp152) rfl ?_
        refine xskipc ?_
        refine xin_normal ?_
        exact xmeet ⟨out105, i106, h, rfl⟩ ⟨(.cons rfl (.refl _) (.cons rfl (.refl _) (.cons rfl (.refl _) (.nil _)))), (SubM.of (.keep rfl rfl (.refl _) (.nil _)) (.keep rfl (.nil _)))⟩
    · clear h
      rintro _ ⟨out146, i147, h, rfl⟩
      refine xregion ?_
      refine xvalP (pv_move rfl) rfl rfl ?_
      obtain ⟨h157, h⟩ := h
      refine xvalP (pv_addI h157 rfl rfl) rfl rfl ?_
      refine xvalP (pv_assign rfl) rfl rfl ?_
      refine xnil ?_
      obtain ⟨m', hm, hI⟩ := hag1 _ h
      exact xagain ⟨out146, (c107 + 1), i147, hI, rfl⟩ hm ⟨(.cons rfl (.refl _) (.cons rfl (.refl _) (.cons rfl (.refl _) (.nil _)))), (SubM.of (.keep rfl rfl (.refl _) (.nil _)) (.keep rfl (.nil _)))⟩
  · replace h := h.2 hp136
    refine xcondF' (decide_eq_false hp136) rfl ?_
    refine xexit ?_
    refine xthen_exit ?_
    refine xthen_exit ?_
    refine xin_same rfl ?_
    refine xthen ?_
    refine xseq ?_
    refine xregion ?_
    refine xvalP (pv_move rfl) rfl rfl ?_
    refine xvalP (pv_assign rfl) rfl rfl ?_
    refine xnil ?_
    refine xthen ?_
    refine xretc ?_
    replace h := h.symm
    subst h
    exact xret1 hg rfl rfl (.refl _) (SubM.of (.nil _) (.keep rfl (.nil _))) ⟨i106, rfl, rfl, rfl⟩
/-- palinodelaw07.awake -/
def palinodelaw07_awake_j1 (x18 : Bool) (r : Bool) : Prop :=
  r = x18
def palinodelaw07_awake_R (r : Bool) : Prop :=
  ∃ y3 : (Arr 4 (UInt64)) × Int × Int, brack_Parse_R ([(93 : UInt8), (97 : UInt8), (45 : UInt8), (99 : UInt8), (93 : UInt8)]) 0 y3 ∧ ∃ y6 : (Arr 4 (UInt64)) × Int × Int, brack_Parse_R ([(94 : UInt8), (93 : UInt8)]) 0 y6 ∧ ((y3.2.2 = 0 → ((y3.2.1 = 5 → ∃ y24 : (List UInt8), palinoderef05_Bytes_R y3.1 y24 ∧ palinodelaw07_awake_j1 ((((⟨y24.toArray⟩ : ByteArray)).toList == ((⟨#[93, 97, 98, 99]⟩ : ByteArray)).toList) && (decide (y6.2.2 = 11))) r) ∧ (¬ (y3.2.1 = 5) → palinodelaw07_awake_j1 false r))) ∧ (¬ (y3.2.2 = 0) → palinodelaw07_awake_j1 false r))
def palinodelaw07_awake_j1_ev (fuel : Nat) (x18 : Bool) : Option (Bool) :=
  some x18
theorem palinodelaw07_awake_j1_ok {fuel : Nat} {x18 : Bool} {r : Bool} (h : palinodelaw07_awake_j1_ev fuel x18 = some r) : palinodelaw07_awake_j1 x18 r := by
  unfold palinodelaw07_awake_j1_ev at h
  unfold palinodelaw07_awake_j1
  exact (Option.some.inj h).symm
def palinodelaw07_awake_ev (fuel : Nat) : Option (Bool) :=
  ((brack_Parse_ev fuel ([(93 : UInt8), (97 : UInt8), (45 : UInt8), (99 : UInt8), (93 : UInt8)]) 0).bind fun y3 => ((brack_Parse_ev fuel ([(94 : UInt8), (93 : UInt8)]) 0).bind fun y6 => (if y3.2.2 = 0 then (if y3.2.1 = 5 then ((palinoderef05_Bytes_ev fuel y3.1).bind fun y24 => palinodelaw07_awake_j1_ev fuel ((((⟨y24.toArray⟩ : ByteArray)).toList == ((⟨#[93, 97, 98, 99]⟩ : ByteArray)).toList) && (decide (y6.2.2 = 11)))) else palinodelaw07_awake_j1_ev fuel false) else palinodelaw07_awake_j1_ev fuel false)))
theorem palinodelaw07_awake_ok {fuel : Nat} {r : Bool} (h : palinodelaw07_awake_ev fuel = some r) : palinodelaw07_awake_R r := by
  unfold palinodelaw07_awake_ev at h
  unfold palinodelaw07_awake_R
  obtain ⟨q189, g189, h⟩ := bind_ok h
  refine ⟨q189, brack_Parse_ok g189, ?_⟩
  obtain ⟨q190, g190, h⟩ := bind_ok h
  refine ⟨q190, brack_Parse_ok g190, ?_⟩
  refine ⟨fun g191 => ?_, fun g191 => ?_⟩
  · rw [if_pos g191] at h
    refine ⟨fun g192 => ?_, fun g192 => ?_⟩
    · rw [if_pos g192] at h
      obtain ⟨q193, g193, h⟩ := bind_ok h
      refine ⟨q193, palinoderef05_Bytes_ok g193, ?_⟩
      exact palinodelaw07_awake_j1_ok h
    · rw [if_neg g192] at h
      exact palinodelaw07_awake_j1_ok h
  · rw [if_neg g191] at h
    exact palinodelaw07_awake_j1_ok h
set_option maxHeartbeats 4000000 in
theorem palinodelaw07_awake_con (r : Bool) (h : palinodelaw07_awake_R r) : Con Try.prog 6 [] [] [] (Ret (.v (.bool r))) := by
  refine xenter Try.func6 rfl rfl fun g hg => ?_
  simp only [Try.ntmps6, slots]
  refine xseq ?_
  refine xregion ?_
  refine xvalP (pv_assign rfl) rfl rfl ?_
  refine xnil ?_
  refine xthen ?_
  refine xseq ?_
  refine xregion ?_
  refine xbuildSliceM (f := eb) [(93 : UInt8), (97 : UInt8), (45 : UInt8), (99 : UInt8), (93 : UInt8)] UndC.h InfC.h rfl rfl (by first | exact wkR_of rfl | (repeat (first | exact WkR.nil | refine WkR.cons (by (repeat (first | exact WkL.nil | refine WkL.cons (by first | with_reducible exact Wk.refl _ | exact Wk.nil_own _ | exact Wk.nil_pl _ | with_reducible exact Wk.tok _ _ _ | exact Wk.tok _ _ _ | exact Wk.eq (by first | rfl | (simp []; done) | (simp []; omega))) ?_))) ?_))) rfl rfl rfl rfl fun s8 => ?_
  refine xmark 0 UndC.h UndC.h rfl rfl rfl rfl ?_
  obtain ⟨y3, h2, h⟩ := h
  refine xcallF (Fb := []) (Ft := []) (brack_Parse_con ([(93 : UInt8), (97 : UInt8), (45 : UInt8), (99 : UInt8), (93 : UInt8)]) 0 _ h2) Try.func7 (by kernel_rfl) rfl (.cons rfl (.refl _) (.cons rfl (.refl _) .nil)) (by exact (SubM.of (by repeat (first | with_reducible exact SubB.refl _ | exact SubB.nil _ | refine SubB.keep rfl rfl (by first | with_reducible exact WkL.refl _ | ((repeat (first | exact WkL.nil | refine WkL.cons (by first | with_reducible exact Wk.refl _ | exact Wk.nil_own _ | exact Wk.nil_pl _ | with_reducible exact Wk.tok _ _ _ | exact Wk.tok _ _ _ | exact Wk.eq (by first | rfl | (simp []; done) | (simp []; omega))) ?_)); done) | exact WkL.refl _) ?_ | refine SubB.drop ?_)) (by repeat (first | exact SubT.nil _ | refine SubT.add ?_ | (refine SubT.keep ?_ ?_; focus (first | with_reducible rfl | (simp []; done))) | refine SubT.drop ?_)))) rfl rfl ?_
  rintro _ _ _ ⟨rfl, rfl, rfl⟩
  simp only [List.nil_append, List.cons_append]
  refine xvalP (pv_move rfl) rfl rfl ?_
  refine xvalP (pv_extract rfl rfl) rfl rfl ?_
  refine xvalP (pv_extract rfl rfl) rfl rfl ?_
  refine xvalP (pv_extract rfl rfl) rfl rfl ?_
  refine xalloc InfC.h rfl rfl fun b1 => ?_
  refine xreb 0 ((List.map ew ((Arr.rep 4 (0 : UInt64))).l).flatten) rfl rfl ?_
  refine xstoreP 0 [] ((List.map ew ((Arr.rep 4 (0 : UInt64))).l).flatten) [] (by first | rfl | exact (List.append_nil _).symm | exact List.append_nil _ | exact List.append_assoc _ _ _ | exact (List.append_assoc _ _ _).symm | exact congrArg _ (List.append_nil _).symm | exact congrArg _ (List.append_nil _) | (simp; done) | (simp [cellsS]; done)) (by first | rfl | exact seg_lenE (by rfl) | exact len_app rfl (seg_lenE (by rfl)) (by rfl) | exact len_app (seg_lenE (by rfl)) rfl (by rfl) | exact len_app rfl (len_app (seg_lenE (by rfl)) rfl (by rfl)) (by rfl) | (simp only [seg_len, cellsS, List.length_append, List.length_cons, List.length_nil]; done) | (simp only [seg_len, cellsS, List.length_append, List.length_cons, List.length_nil]; rfl)) (by first | rfl | exact seg_lenE (by rfl) | exact len_app rfl (seg_lenE (by rfl)) (by rfl) | exact len_app (seg_lenE (by rfl)) rfl (by rfl) | exact len_app rfl (len_app (seg_lenE (by rfl)) rfl (by rfl)) (by rfl) | (simp only [seg_len, cellsS, List.length_append, List.length_cons, List.length_nil]; done) | (simp only [seg_len, cellsS, List.length_append, List.length_cons, List.length_nil]; rfl)) ShpC.h rfl rfl rfl rfl (by first | rfl | exact seg_lenE (by rfl) | exact len_app rfl (seg_lenE (by rfl)) (by rfl) | exact len_app (seg_lenE (by rfl)) rfl (by rfl) | exact len_app rfl (len_app (seg_lenE (by rfl)) rfl (by rfl)) (by rfl) | (simp only [seg_len, cellsS, List.length_append, List.length_cons, List.length_nil]; done) | (simp only [seg_len, cellsS, List.length_append, List.length_cons, List.length_nil]; rfl)) rfl ?_
  refine xreb 0 ((List.map ew y3.1.l).flatten) rfl (by first | rfl | exact (List.append_nil _).symm | exact List.append_nil _ | exact List.append_assoc _ _ _ | exact (List.append_assoc _ _ _).symm | exact congrArg _ (List.append_nil _).symm | exact congrArg _ (List.append_nil _) | (simp; done) | (simp [cellsS]; done)) ?_
  refine xvalP (pv_assign rfl) rfl rfl ?_
  refine xvalP (pv_assign rfl) rfl rfl ?_
  refine xnil ?_
  refine xthen ?_
  refine xseq ?_
  refine xregion ?_
  refine xbuildSliceM (f := eb) [(94 : UInt8), (93 : UInt8)] UndC.h InfC.h rfl rfl (by first | exact wkR_of rfl | (repeat (first | exact WkR.nil | refine WkR.cons (by (repeat (first | exact WkL.nil | refine WkL.cons (by first | with_reducible exact Wk.refl _ | exact Wk.nil_own _ | exact Wk.nil_pl _ | with_reducible exact Wk.tok _ _ _ | exact Wk.tok _ _ _ | exact Wk.eq (by first | rfl | (simp []; done) | (simp []; omega))) ?_))) ?_))) rfl rfl rfl rfl fun s15 => ?_
  refine xmark 0 UndC.h UndC.h rfl rfl rfl rfl ?_
  obtain ⟨y6, h5, h⟩ := h
  refine xcallF (Fb := [⟨b1, 26, ((List.map ew y3.1.l).flatten)⟩]) (Ft := []) (brack_Parse_con ([(94 : UInt8), (93 : UInt8)]) 0 _ h5) Try.func7 (by kernel_rfl) rfl (.cons rfl (.refl _) (.cons rfl (.refl _) .nil)) (by exact (SubM.of (by repeat (first | with_reducible exact SubB.refl _ | exact SubB.nil _ | refine SubB.keep rfl rfl (by first | with_reducible exact WkL.refl _ | ((repeat (first | exact WkL.nil | refine WkL.cons (by first | with_reducible exact Wk.refl _ | exact Wk.nil_own _ | exact Wk.nil_pl _ | with_reducible exact Wk.tok _ _ _ | exact Wk.tok _ _ _ | exact Wk.eq (by first | rfl | (simp []; done) | (simp []; omega))) ?_)); done) | exact WkL.refl _) ?_ | refine SubB.drop ?_)) (by repeat (first | exact SubT.nil _ | refine SubT.add ?_ | (refine SubT.keep ?_ ?_; focus (first | with_reducible rfl | (simp []; done))) | refine SubT.drop ?_)))) rfl rfl ?_
  rintro _ _ _ ⟨rfl, rfl, rfl⟩
  simp only [List.nil_append, List.cons_append]
  refine xvalP (pv_move rfl) rfl rfl ?_
  refine xvalP (pv_extract rfl rfl) rfl rfl ?_
  refine xvalP (pv_extract rfl rfl) rfl rfl ?_
  refine xvalP (pv_extract rfl rfl) rfl rfl ?_
  refine xalloc InfC.h rfl rfl fun b4 => ?_
  refine xreb 0 ((List.map ew ((Arr.rep 4 (0 : UInt64))).l).flatten) rfl rfl ?_
  refine xstoreP 0 [] ((List.map ew ((Arr.rep 4 (0 : UInt64))).l).flatten) [] (by first | rfl | exact (List.append_nil _).symm | exact List.append_nil _ | exact List.append_assoc _ _ _ | exact (List.append_assoc _ _ _).symm | exact congrArg _ (List.append_nil _).symm | exact congrArg _ (List.append_nil _) | (simp; done) | (simp [cellsS]; done)) (by first | rfl | exact seg_lenE (by rfl) | exact len_app rfl (seg_lenE (by rfl)) (by rfl) | exact len_app (seg_lenE (by rfl)) rfl (by rfl) | exact len_app rfl (len_app (seg_lenE (by rfl)) rfl (by rfl)) (by rfl) | (simp only [seg_len, cellsS, List.length_append, List.length_cons, List.length_nil]; done) | (simp only [seg_len, cellsS, List.length_append, List.length_cons, List.length_nil]; rfl)) (by first | rfl | exact seg_lenE (by rfl) | exact len_app rfl (seg_lenE (by rfl)) (by rfl) | exact len_app (seg_lenE (by rfl)) rfl (by rfl) | exact len_app rfl (len_app (seg_lenE (by rfl)) rfl (by rfl)) (by rfl) | (simp only [seg_len, cellsS, List.length_append, List.length_cons, List.length_nil]; done) | (simp only [seg_len, cellsS, List.length_append, List.length_cons, List.length_nil]; rfl)) ShpC.h rfl rfl rfl rfl (by first | rfl | exact seg_lenE (by rfl) | exact len_app rfl (seg_lenE (by rfl)) (by rfl) | exact len_app (seg_lenE (by rfl)) rfl (by rfl) | exact len_app rfl (len_app (seg_lenE (by rfl)) rfl (by rfl)) (by rfl) | (simp only [seg_len, cellsS, List.length_append, List.length_cons, List.length_nil]; done) | (simp only [seg_len, cellsS, List.length_append, List.length_cons, List.length_nil]; rfl)) rfl ?_
  refine xreb 0 ((List.map ew y6.1.l).flatten) rfl (by first | rfl | exact (List.append_nil _).symm | exact List.append_nil _ | exact List.append_assoc _ _ _ | exact (List.append_assoc _ _ _).symm | exact congrArg _ (List.append_nil _).symm | exact congrArg _ (List.append_nil _) | (simp; done) | (simp [cellsS]; done)) ?_
  refine xvalP (pv_assign rfl) rfl rfl ?_
  refine xvalP (pv_assign rfl) rfl rfl ?_
  refine xnil ?_
  refine xthen ?_
  refine xseqM (fun σ => ∃ (x18 : Bool), palinodelaw07_awake_j1 x18 r ∧ σ = ⟨[(0, .v (.bool x18))], [], []⟩) ?_ ?_
  · refine xregion ?_
    refine xvalP (pv_move rfl) rfl rfl ?_
    refine xvalP (pv_bin2 rfl rfl rfl) rfl rfl ?_
    refine xvalP (pv_move rfl) rfl rfl ?_
    by_cases hp20 : y3.2.2 = 0
    · replace h := h.1 hp20
      refine xsetB 23 (decide_eq_true hp20) rfl ?_
      refine xvalP (pv_move rfl) rfl rfl ?_
      refine xvalP (pv_bin2 rfl rfl rfl) rfl rfl ?_
      refine xvalP (pv_pick rfl rfl) rfl rfl ?_
      refine xvalP (pv_move rfl) rfl rfl ?_
      by_cases hp22 : y3.2.1 = 5
      · replace h := h.1 hp22
        refine xsetB 27 (decide_eq_true hp22) rfl ?_
        refine xval (qv_loadP 1 [] ((List.map ew y3.1.l).flatten) [] (by first | rfl | exact (List.append_nil _).symm | exact List.append_nil _ | exact List.append_assoc _ _ _ | exact (List.append_assoc _ _ _).symm | exact congrArg _ (List.append_nil _).symm | exact congrArg _ (List.append_nil _) | (simp; done) | (simp [cellsS]; done)) (by first | rfl | exact seg_lenE (by rfl) | exact len_app rfl (seg_lenE (by rfl)) (by rfl) | exact len_app (seg_lenE (by rfl)) rfl (by rfl) | exact len_app rfl (len_app (seg_lenE (by rfl)) rfl (by rfl)) (by rfl) | (simp only [seg_len, cellsS, List.length_append, List.length_cons, List.length_nil]; done) | (simp only [seg_len, cellsS, List.length_append, List.length_cons, List.length_nil]; rfl)) (by first | rfl | exact seg_lenE (by rfl) | exact len_app rfl (seg_lenE (by rfl)) (by rfl) | exact len_app (seg_lenE (by rfl)) rfl (by rfl) | exact len_app rfl (len_app (seg_lenE (by rfl)) rfl (by rfl)) (by rfl) | (simp only [seg_len, cellsS, List.length_append, List.length_cons, List.length_nil]; done) | (simp only [seg_len, cellsS, List.length_append, List.length_cons, List.length_nil]; rfl)) (part_all (seg_lenE (by rfl))) ShpC.h rfl rfl) rfl rfl ?_
        obtain ⟨y24, h23, h⟩ := h
        refine xcallM (palinoderef05_Bytes_con y3.1 _ h23) Try.func10 (by kernel_rfl) rfl (.cons rfl (.refl _) .nil) rfl rfl fun i25 => ?_
        refine xval (pv_str (bs := y24) UndC.h UndC.h UndC.h rfl rfl rfl (fun _ h => by injection h with h; exact h.symm)) rfl rfl ?_
        refine xvalP (pv_bin2 rfl rfl rfl) rfl rfl ?_
        refine xvalP (pv_pick rfl rfl) rfl rfl ?_
        refine xvalP (pv_move rfl) rfl rfl ?_
        by_cases hp28 : (((⟨y24.toArray⟩ : ByteArray)).toList == ((⟨#[93, 97, 98, 99]⟩ : ByteArray)).toList) = true
        · rw [show (((⟨y24.toArray⟩ : ByteArray)).toList == ((⟨#[93, 97, 98, 99]⟩ : ByteArray)).toList) = true from hp28, Bool.true_and] at h
          refine xsetB 33 hp28 rfl ?_
          refine xvalP (pv_move rfl) rfl rfl ?_
          refine xvalP (pv_bin2 rfl rfl rfl) rfl rfl ?_
          refine xvalP (pv_pick rfl rfl) rfl rfl ?_
          refine xvalP (pv_assign rfl) rfl rfl ?_
          refine xnil ?_
          exact xmeet ⟨(decide (y6.2.2 = 11)), h, rfl⟩ ⟨(.cons rfl (.refl _) (.nil _)), (SubM.of (.nil _) (.nil _))⟩
        · rw [show (((⟨y24.toArray⟩ : ByteArray)).toList == ((⟨#[93, 97, 98, 99]⟩ : ByteArray)).toList) = false from (b_f hp28), Bool.false_and] at h
          refine xsetB 33 (b_f hp28) rfl ?_
          refine xskip rfl rfl ?_
          refine xskip rfl rfl ?_
          refine xvalP (pv_pick rfl rfl) rfl rfl ?_
          refine xvalP (pv_assign rfl) rfl rfl ?_
          refine xnil ?_
          exact xmeet ⟨false, h, rfl⟩ ⟨(.cons rfl (.refl _) (.nil _)), (SubM.of (.nil _) (.nil _))⟩
      · replace h := h.2 hp22
        refine xsetB 27 (decide_eq_false hp22) rfl ?_
        refine xskip rfl rfl ?_
        refine xskip rfl rfl ?_
        refine xskip rfl rfl ?_
        refine xskip rfl rfl ?_
        refine xvalP (pv_pick rfl rfl) rfl rfl ?_
        refine xvalP (pv_move rfl) rfl rfl ?_
        refine xskip rfl rfl ?_
        refine xskip rfl rfl ?_
        refine xvalP (pv_pick rfl rfl) rfl rfl ?_
        refine xvalP (pv_assign rfl) rfl rfl ?_
        refine xnil ?_
        exact xmeet ⟨false, h, rfl⟩ ⟨(.cons rfl (.refl _) (.nil _)), (SubM.of (.nil _) (.nil _))⟩
    · replace h := h.2 hp20
      refine xsetB 23 (decide_eq_false hp20) rfl ?_
      refine xskip rfl rfl ?_
      refine xskip rfl rfl ?_
      refine xvalP (pv_pick rfl rfl) rfl rfl ?_
      refine xvalP (pv_move rfl) rfl rfl ?_
      refine xskip rfl rfl ?_
      refine xskip rfl rfl ?_
      refine xskip rfl rfl ?_
      refine xskip rfl rfl ?_
      refine xvalP (pv_pick rfl rfl) rfl rfl ?_
      refine xvalP (pv_move rfl) rfl rfl ?_
      refine xskip rfl rfl ?_
      refine xskip rfl rfl ?_
      refine xvalP (pv_pick rfl rfl) rfl rfl ?_
      refine xvalP (pv_assign rfl) rfl rfl ?_
      refine xnil ?_
      exact xmeet ⟨false, h, rfl⟩ ⟨(.cons rfl (.refl _) (.nil _)), (SubM.of (.nil _) (.nil _))⟩
  · clear h
    rintro _ ⟨x18, h, rfl⟩
    refine xretc ?_
    replace h := h.symm
    subst h
    exact xret1 hg rfl rfl (.refl _) (SubM.of (.nil _) (.nil _)) ⟨rfl, rfl, rfl⟩
/-- math/bits.OnesCount64 -/
def math_bits_OnesCount64_R (x1 : UInt64) (r : Int) : Prop :=
  (0 : Int) ≤ 1 ∧ ∃ c3 : UInt64, (c3.toNat : Int) = ((x1.toNat : Int) : Int).fdiv (2 ^ (min (1 : Int).toNat IntKind.u64.bits)) ∧ ∃ c5 : UInt64, (c5.toNat : Int) = IntKind.u64.wrap (BitVec.ofInt IntKind.u64.bits (c3.toNat : Int) &&& BitVec.ofInt IntKind.u64.bits (6148914691236517205)).toNat ∧ ∃ c7 : UInt64, (c7.toNat : Int) = IntKind.u64.wrap (BitVec.ofInt IntKind.u64.bits (x1.toNat : Int) &&& BitVec.ofInt IntKind.u64.bits (6148914691236517205)).toNat ∧ ∃ c9 : UInt64, (c9.toNat : Int) = IntKind.u64.wrap ((c5.toNat : Int) + (c7.toNat : Int)) ∧ (0 : Int) ≤ 2 ∧ ∃ c11 : UInt64, (c11.toNat : Int) = ((c9.toNat : Int) : Int).fdiv (2 ^ (min (2 : Int).toNat IntKind.u64.bits)) ∧ ∃ c13 : UInt64, (c13.toNat : Int) = IntKind.u64.wrap (BitVec.ofInt IntKind.u64.bits (c11.toNat : Int) &&& BitVec.ofInt IntKind.u64.bits (3689348814741910323)).toNat ∧ ∃ c15 : UInt64, (c15.toNat : Int) = IntKind.u64.wrap (BitVec.ofInt IntKind.u64.bits (c9.toNat : Int) &&& BitVec.ofInt IntKind.u64.bits (3689348814741910323)).toNat ∧ ∃ c17 : UInt64, (c17.toNat : Int) = IntKind.u64.wrap ((c13.toNat : Int) + (c15.toNat : Int)) ∧ (0 : Int) ≤ 4 ∧ ∃ c19 : UInt64, (c19.toNat : Int) = ((c17.toNat : Int) : Int).fdiv (2 ^ (min (4 : Int).toNat IntKind.u64.bits)) ∧ ∃ c21 : UInt64, (c21.toNat : Int) = IntKind.u64.wrap ((c19.toNat : Int) + (c17.toNat : Int)) ∧ ∃ c23 : UInt64, (c23.toNat : Int) = IntKind.u64.wrap (BitVec.ofInt IntKind.u64.bits (c21.toNat : Int) &&& BitVec.ofInt IntKind.u64.bits (1085102592571150095)).toNat ∧ (0 : Int) ≤ 8 ∧ ∃ c25 : UInt64, (c25.toNat : Int) = ((c23.toNat : Int) : Int).fdiv (2 ^ (min (8 : Int).toNat IntKind.u64.bits)) ∧ ∃ c27 : UInt64, (c27.toNat : Int) = IntKind.u64.wrap ((c23.toNat : Int) + (c25.toNat : Int)) ∧ (0 : Int) ≤ 16 ∧ ∃ c29 : UInt64, (c29.toNat : Int) = ((c27.toNat : Int) : Int).fdiv (2 ^ (min (16 : Int).toNat IntKind.u64.bits)) ∧ ∃ c31 : UInt64, (c31.toNat : Int) = IntKind.u64.wrap ((c27.toNat : Int) + (c29.toNat : Int)) ∧ (0 : Int) ≤ 32 ∧ ∃ c33 : UInt64, (c33.toNat : Int) = ((c31.toNat : Int) : Int).fdiv (2 ^ (min (32 : Int).toNat IntKind.u64.bits)) ∧ ∃ c35 : UInt64, (c35.toNat : Int) = IntKind.u64.wrap ((c31.toNat : Int) + (c33.toNat : Int)) ∧ ∃ z37 : Int, z37 = IntKind.i64.wrap ((c35.toNat : Int)) ∧ ∃ c39 : Int, c39 = IntKind.i64.wrap (BitVec.ofInt IntKind.i64.bits (z37) &&& BitVec.ofInt IntKind.i64.bits (127)).toNat ∧ r = c39
set_option maxHeartbeats 4000000 in
theorem math_bits_OnesCount64_con (x1 : UInt64) (r : Int) (h : math_bits_OnesCount64_R x1 r) : Con Try.prog 25 [.v (.int .u64 ((x1.toNat : Int)))] [] [] (Ret (.v (.int .i64 r))) := by
  refine xenter Try.func25 rfl rfl fun g hg => ?_
  simp only [Try.ntmps25, slots]
  refine xseq ?_
  refine xregion ?_
  refine xvalP (pv_assign rfl) rfl rfl ?_
  refine xnil ?_
  refine xthen ?_
  refine xseq ?_
  refine xregion ?_
  refine xvalP (pv_move rfl) rfl rfl ?_
  obtain ⟨h2, h⟩ := h
  obtain ⟨c3, h2r, h⟩ := h
  refine xvalP (pv_shrW h2 h2r rfl rfl) rfl rfl ?_
  obtain ⟨c5, h4, h⟩ := h
  refine xvalP (pv_wr h4 rfl rfl rfl) rfl rfl ?_
  refine xvalP (pv_move rfl) rfl rfl ?_
  obtain ⟨c7, h6, h⟩ := h
  refine xvalP (pv_wr h6 rfl rfl rfl) rfl rfl ?_
  obtain ⟨c9, h8, h⟩ := h
  refine xvalP (pv_wr h8 rfl rfl rfl) rfl rfl ?_
  refine xvalP (pv_assign rfl) rfl rfl ?_
  refine xnil ?_
  refine xthen ?_
  refine xseq ?_
  refine xregion ?_
  refine xvalP (pv_move rfl) rfl rfl ?_
  obtain ⟨h10, h⟩ := h
  obtain ⟨c11, h10r, h⟩ := h
  refine xvalP (pv_shrW h10 h10r rfl rfl) rfl rfl ?_
  obtain ⟨c13, h12, h⟩ := h
  refine xvalP (pv_wr h12 rfl rfl rfl) rfl rfl ?_
  refine xvalP (pv_move rfl) rfl rfl ?_
  obtain ⟨c15, h14, h⟩ := h
  refine xvalP (pv_wr h14 rfl rfl rfl) rfl rfl ?_
  obtain ⟨c17, h16, h⟩ := h
  refine xvalP (pv_wr h16 rfl rfl rfl) rfl rfl ?_
  refine xvalP (pv_assign rfl) rfl rfl ?_
  refine xnil ?_
  refine xthen ?_
  refine xseq ?_
  refine xregion ?_
  refine xvalP (pv_move rfl) rfl rfl ?_
  obtain ⟨h18, h⟩ := h
  obtain ⟨c19, h18r, h⟩ := h
  refine xvalP (pv_shrW h18 h18r rfl rfl) rfl rfl ?_
  refine xvalP (pv_move rfl) rfl rfl ?_
  obtain ⟨c21, h20, h⟩ := h
  refine xvalP (pv_wr h20 rfl rfl rfl) rfl rfl ?_
  obtain ⟨c23, h22, h⟩ := h
  refine xvalP (pv_wr h22 rfl rfl rfl) rfl rfl ?_
  refine xvalP (pv_assign rfl) rfl rfl ?_
  refine xnil ?_
  refine xthen ?_
  refine xseq ?_
  refine xregion ?_
  refine xvalP (pv_move rfl) rfl rfl ?_
  refine xvalP (pv_move rfl) rfl rfl ?_
  obtain ⟨h24, h⟩ := h
  obtain ⟨c25, h24r, h⟩ := h
  refine xvalP (pv_shrW h24 h24r rfl rfl) rfl rfl ?_
  obtain ⟨c27, h26, h⟩ := h
  refine xvalP (pv_wr h26 rfl rfl rfl) rfl rfl ?_
  refine xvalP (pv_assign rfl) rfl rfl ?_
  refine xnil ?_
  refine xthen ?_
  refine xseq ?_
  refine xregion ?_
  refine xvalP (pv_move rfl) rfl rfl ?_
  refine xvalP (pv_move rfl) rfl rfl ?_
  obtain ⟨h28, h⟩ := h
  obtain ⟨c29, h28r, h⟩ := h
  refine xvalP (pv_shrW h28 h28r rfl rfl) rfl rfl ?_
  obtain ⟨c31, h30, h⟩ := h
  refine xvalP (pv_wr h30 rfl rfl rfl) rfl rfl ?_
  refine xvalP (pv_assign rfl) rfl rfl ?_
  refine xnil ?_
  refine xthen ?_
  refine xseq ?_
  refine xregion ?_
  refine xvalP (pv_move rfl) rfl rfl ?_
  refine xvalP (pv_move rfl) rfl rfl ?_
  obtain ⟨h32, h⟩ := h
  obtain ⟨c33, h32r, h⟩ := h
  refine xvalP (pv_shrW h32 h32r rfl rfl) rfl rfl ?_
  obtain ⟨c35, h34, h⟩ := h
  refine xvalP (pv_wr h34 rfl rfl rfl) rfl rfl ?_
  refine xvalP (pv_assign rfl) rfl rfl ?_
  refine xnil ?_
  refine xthen ?_
  refine xseq ?_
  refine xregion ?_
  refine xvalP (pv_move rfl) rfl rfl ?_
  obtain ⟨z37, h36, h⟩ := h
  refine xvalP (pv_convW h36 UndC.h UndC.h rfl) rfl rfl ?_
  obtain ⟨c39, h38, h⟩ := h
  refine xvalP (pv_wr h38 rfl rfl rfl) rfl rfl ?_
  refine xvalP (pv_assign rfl) rfl rfl ?_
  refine xnil ?_
  refine xthen ?_
  refine xretc ?_
  replace h := h.symm
  subst h
  exact xret1 hg rfl rfl (.refl _) (SubM.of (.nil _) (.nil _)) ⟨rfl, rfl, rfl⟩
/-- class.Count -/
def class_Count_l1 (sv1 : Arr 4 (UInt64)) (ag1 : (Int × Int) → Prop) (nv40 : Int) (x41 : Int) (r : Int) : Prop :=
  ((x41 < 4 → (0 ≤ (x41 : Int) ∧ (x41 : Int) < 4) ∧ ∃ y55 : UInt64, sv1.l[(x41 : Int).toNat]? = some y55 ∧ ∃ y57 : Int, math_bits_OnesCount64_R y55 y57 ∧ InR (nv40 + y57) ∧ InR (x41 + 1) ∧ ag1 ((nv40 + y57), (x41 + 1))) ∧ (¬ (x41 < 4) → r = nv40))
def class_Count_R (sv1 : Arr 4 (UInt64)) (r : Int) : Prop :=
  LoopR (fun ag1 s => class_Count_l1 sv1 ag1 s.1 s.2 r) (0, 0)
set_option maxHeartbeats 4000000 in
theorem class_Count_con (sv1 : Arr 4 (UInt64)) (r : Int) (h : class_Count_R sv1 r) : Con Try.prog 14 [.agg ((List.map ew sv1.l).flatten)] [] [] (Ret (.v (.int .i64 r))) := by
  refine xenter Try.func14 rfl rfl fun g hg => ?_
  simp only [Try.ntmps14, slots]
  refine xseq ?_
  refine xregion ?_
  refine xbox rfl rfl rfl rfl fun b1 => ?_
  refine xvalP (pv_assign rfl) rfl rfl ?_
  refine xnil ?_
  refine xthen ?_
  refine xseq ?_
  refine xregion ?_
  refine xvalP (pv_assign rfl) rfl rfl ?_
  refine xnil ?_
  refine xthen ?_
  refine xseq ?_
  refine xseq ?_
  refine xregion ?_
  refine xval (qv_loadP 0 [] ((List.map ew sv1.l).flatten) [] (by first | rfl | exact (List.append_nil _).symm | exact List.append_nil _ | exact List.append_assoc _ _ _ | exact (List.append_assoc _ _ _).symm | exact congrArg _ (List.append_nil _).symm | exact congrArg _ (List.append_nil _) | (simp; done) | (simp [cellsS]; done)) (by first | rfl | exact seg_lenE (by rfl) | exact len_app rfl (seg_lenE (by rfl)) (by rfl) | exact len_app (seg_lenE (by rfl)) rfl (by rfl) | exact len_app rfl (len_app (seg_lenE (by rfl)) rfl (by rfl)) (by rfl) | (simp only [seg_len, cellsS, List.length_append, List.length_cons, List.length_nil]; done) | (simp only [seg_len, cellsS, List.length_append, List.length_cons, List.length_nil]; rfl)) (by first | rfl | exact seg_lenE (by rfl) | exact len_app rfl (seg_lenE (by rfl)) (by rfl) | exact len_app (seg_lenE (by rfl)) rfl (by rfl) | exact len_app rfl (len_app (seg_lenE (by rfl)) rfl (by rfl)) (by rfl) | (simp only [seg_len, cellsS, List.length_append, List.length_cons, List.length_nil]; done) | (simp only [seg_len, cellsS, List.length_append, List.length_cons, List.length_nil]; rfl)) (part_all (seg_lenE (by rfl))) ShpC.h rfl rfl) rfl rfl ?_
  refine xvalP (pv_move rfl) rfl rfl ?_
  refine xnil ?_
  refine xthen ?_
  refine xblock ?_
  obtain ⟨Inv, ⟨m0, hI⟩, hS⟩ := h
  refine xloop (fun σ m => ∃ (nv40 : Int), ∃ (x41 : Int), Inv (nv40, x41) m ∧ σ = ⟨[(3, .v (.int .i64 nv40)), (6, .agg ((List.map ew sv1.l).flatten)), (7, .v (.int .i64 x41))], [], []⟩) ⟨0, 0, hI, rfl⟩ ⟨(.cons rfl (.refl _) (.cons rfl (.refl _) (.cons rfl (.refl _) (.nil _)))), (SubM.of (.nil _) (.nil _))⟩ ?_
  rintro _ m ⟨nv40, x41, hI, rfl⟩
  obtain ⟨ag1, hag1, h⟩ : ∃ ag, (∀ s', ag s' → ∃ m', m' < m ∧ Inv s' m') ∧ class_Count_l1 sv1 ag nv40 x41 r := ⟨_, fun _ h => h, hS (nv40, x41) _ hI⟩
  clear hS hI
  refine xseq ?_
  refine xregion ?_
  refine xvalP (pv_bin2 rfl rfl rfl) rfl rfl ?_
  refine xnil ?_
  refine xthen ?_
  refine xseq ?_
  by_cases hp53 : x41 < 4
  · replace h := h.1 hp53
    refine xcondT' (decide_eq_true hp53) rfl ?_
    refine xskipc ?_
    refine xthen ?_
    refine xseq ?_
    refine xblock ?_
    refine xseq ?_
    refine xregion ?_
    obtain ⟨h54, h⟩ := h
    obtain ⟨y55, h54b, h⟩ := h
    refine xvalP (pv_indexAA (f := ew) (a := sv1) [] h54 h54b (by first | rfl | exact (List.append_nil _).symm | exact List.append_nil _ | exact List.append_assoc _ _ _ | exact (List.append_assoc _ _ _).symm | exact congrArg _ (List.append_nil _).symm | exact congrArg _ (List.append_nil _) | (simp; done) | (simp [cellsS]; done)) rfl UndC.h ShpC.h rfl rfl) rfl rfl ?_
    refine xvalP (pv_assign rfl) rfl rfl ?_
    refine xnil ?_
    refine xthen ?_
    refine xregion ?_
    refine xvalP (pv_move rfl) rfl rfl ?_
    refine xvalP (pv_move rfl) rfl rfl ?_
    obtain ⟨y57, h56, h⟩ := h
    refine xcall0 (math_bits_OnesCount64_con y55 _ h56) Try.func25 (by kernel_rfl) rfl (.cons rfl (.refl _) .nil) rfl rfl ?_
    obtain ⟨h58, h⟩ := h
    refine xvalP (pv_addI h58 rfl rfl) rfl rfl ?_
    refine xvalP (pv_assign rfl) rfl rfl ?_
    refine xnil ?_
    refine xin_normal ?_
    refine xthen ?_
    refine xregion ?_
    obtain ⟨h59, h⟩ := h
    refine xvalP (pv_addI h59 rfl rfl) rfl rfl ?_
    refine xvalP (pv_move rfl) rfl rfl ?_
    refine xnil ?_
    obtain ⟨m', hm, hI⟩ := hag1 _ h
    exact xagain ⟨(nv40 + y57), (x41 + 1), hI, rfl⟩ hm ⟨(.cons rfl (.refl _) (.cons rfl (.refl _) (.cons rfl (.refl _) (.nil _)))), (SubM.of (.nil _) (.nil _))⟩
  · replace h := h.2 hp53
    refine xcondF' (decide_eq_false hp53) rfl ?_
    refine xexit ?_
    refine xthen_exit ?_
    refine xthen_exit ?_
    refine xin_same rfl ?_
    refine xthen ?_
    refine xseq ?_
    refine xregion ?_
    refine xvalP (pv_move rfl) rfl rfl ?_
    refine xvalP (pv_assign rfl) rfl rfl ?_
    refine xnil ?_
    refine xthen ?_
    refine xretc ?_
    replace h := h.symm
    subst h
    exact xret1 hg rfl rfl (.refl _) (SubM.of (.nil _) (.nil _)) ⟨rfl, rfl, rfl⟩
/-- class.Has -/
def class_Has_R (sv1 : Arr 4 (UInt64)) (c2 : UInt8) (r : Bool) : Prop :=
  (64 : Int) ≠ 0 ∧ ∃ c4 : UInt8, (c4.toNat : Int) = IntKind.u8.wrap (((c2.toNat : Int)).tdiv 64) ∧ (0 ≤ ((c4.toNat : Int) : Int) ∧ ((c4.toNat : Int) : Int) < 4) ∧ ∃ y6 : UInt64, sv1.l[((c4.toNat : Int) : Int).toNat]? = some y6 ∧ (64 : Int) ≠ 0 ∧ ∃ c8 : UInt8, (c8.toNat : Int) = (((c2.toNat : Int)).tmod 64) ∧ (0 : Int) ≤ (c8.toNat : Int) ∧ ∃ c10 : UInt64, (c10.toNat : Int) = ((y6.toNat : Int) : Int).fdiv (2 ^ (min ((c8.toNat : Int) : Int).toNat IntKind.u64.bits)) ∧ ∃ c12 : UInt64, (c12.toNat : Int) = IntKind.u64.wrap (BitVec.ofInt IntKind.u64.bits (c10.toNat : Int) &&& BitVec.ofInt IntKind.u64.bits (1)).toNat ∧ r = (decide ((c12.toNat : Int) = 1))
set_option maxHeartbeats 4000000 in
theorem class_Has_con (sv1 : Arr 4 (UInt64)) (c2 : UInt8) (r : Bool) (h : class_Has_R sv1 c2 r) : Con Try.prog 16 [.agg ((List.map ew sv1.l).flatten), .v (.int .u8 ((c2.toNat : Int)))] [] [] (Ret (.v (.bool r))) := by
  refine xenter Try.func16 rfl rfl fun g hg => ?_
  simp only [Try.ntmps16, slots]
  refine xseq ?_
  refine xregion ?_
  refine xbox rfl rfl rfl rfl fun b2 => ?_
  refine xvalP (pv_assign rfl) rfl rfl ?_
  refine xnil ?_
  refine xthen ?_
  refine xseq ?_
  refine xregion ?_
  refine xvalP (pv_move rfl) rfl rfl ?_
  obtain ⟨h3, h⟩ := h
  obtain ⟨c4, h3r, h⟩ := h
  refine xvalP (pv_quoW h3 h3r rfl rfl rfl) rfl rfl ?_
  obtain ⟨h5, h⟩ := h
  obtain ⟨y6, h5b, h⟩ := h
  refine xvalP (pv_indexAddrBA h5 UndC.h ShpC.h rfl rfl) rfl rfl ?_
  refine xval (qv_loadA (f := ew) (a := sv1) (k := 1) (off := 0) (i := ((c4.toNat : Int) : Int).toNat) 0 [] [] h5b (by first | rfl | exact (List.append_nil _).symm | exact List.append_nil _ | exact List.append_assoc _ _ _ | exact (List.append_assoc _ _ _).symm | exact congrArg _ (List.append_nil _).symm | exact congrArg _ (List.append_nil _) | (simp; done) | (simp [cellsS]; done)) (by first | rfl | omega | (simp only [List.length_cons, List.length_nil]; omega) | (simp only [seg_len, List.length_append, List.length_cons, List.length_nil]; omega)) (by decide) rfl ShpC.h rfl rfl) rfl rfl ?_
  refine xvalP (pv_move rfl) rfl rfl ?_
  obtain ⟨h7, h⟩ := h
  obtain ⟨c8, h7r, h⟩ := h
  refine xvalP (pv_remW h7 h7r rfl rfl rfl) rfl rfl ?_
  obtain ⟨h9, h⟩ := h
  obtain ⟨c10, h9r, h⟩ := h
  refine xvalP (pv_shrW h9 h9r rfl rfl) rfl rfl ?_
  obtain ⟨c12, h11, h⟩ := h
  refine xvalP (pv_wr h11 rfl rfl rfl) rfl rfl ?_
  refine xvalP (pv_bin2 rfl rfl rfl) rfl rfl ?_
  refine xvalP (pv_assign rfl) rfl rfl ?_
  refine xnil ?_
  refine xthen ?_
  refine xretc ?_
  replace h := h.symm
  subst h
  exact xret1 hg rfl rfl (.refl _) (SubM.of (.nil _) (.nil _)) ⟨rfl, rfl, rfl⟩
/-- class.Bytes -/
def class_Bytes_l1 (sv1 : Arr 4 (UInt64)) (ag1 : ((List UInt8) × Int) → Prop) (out97 : List UInt8) (x99 : Int) (r : (List UInt8)) : Prop :=
  ((x99 < 256 → ∃ c136 : UInt8, (c136.toNat : Int) = IntKind.u8.wrap x99 ∧ ∃ y138 : Bool, class_Has_R sv1 c136 y138 ∧ ((y138 = true → ∃ c141 : UInt8, (c141.toNat : Int) = IntKind.u8.wrap x99 ∧ Room (out97.length + ([c141]).length) 1 ∧ InR (x99 + 1) ∧ ag1 ((out97 ++ [c141]), (x99 + 1))) ∧ (¬ (y138 = true) → InR (x99 + 1) ∧ ag1 (out97, (x99 + 1))))) ∧ (¬ (x99 < 256) → r = out97))
def class_Bytes_R (sv1 : Arr 4 (UInt64)) (r : (List UInt8)) : Prop :=
  LoopR (fun ag1 s => class_Bytes_l1 sv1 ag1 s.1 s.2 r) (([] : List UInt8), 0)
set_option maxHeartbeats 4000000 in
theorem class_Bytes_con (sv1 : Arr 4 (UInt64)) (r : (List UInt8)) (h : class_Bytes_R sv1 r) : Con Try.prog 17 [.agg ((List.map ew sv1.l).flatten)] [] [] (RetM 1 5 eb r) := by
  refine xenter Try.func17 rfl rfl fun g hg => ?_
  simp only [Try.ntmps17, slots]
  refine xseq ?_
  refine xregion ?_
  refine xbox rfl rfl rfl rfl fun b1 => ?_
  refine xvalP (pv_assign rfl) rfl rfl ?_
  refine xnil ?_
  refine xthen ?_
  refine xseq ?_
  refine xregion ?_
  refine xvalP (pv_assign rfl) rfl rfl ?_
  refine xnil ?_
  refine xthen ?_
  refine xseq ?_
  refine xseq ?_
  refine xregion ?_
  refine xvalP (pv_move rfl) rfl rfl ?_
  refine xnil ?_
  refine xthen ?_
  refine xblock ?_
  obtain ⟨Inv, ⟨m0, hI⟩, hS⟩ := h
  refine xloop (fun σ m => ∃ (out97 : List UInt8), ∃ (x99 : Int), ∃ (i98 : Option (Nat × Nat)), Inv (out97, x99) m ∧ σ = ⟨[(1, .v (.pointer (some ⟨b1, 0, none⟩))), (3, .sl 1 (some i98) (List.map eb out97)), (5, .v (.int .i64 x99))], [⟨b1, 26, ((List.map ew sv1.l).flatten)⟩], [⟨i98, 5, 1, out97.length⟩]⟩) ⟨([] : List UInt8), 0, none, hI, rfl⟩ ⟨(.cons rfl (.refl _) (.cons rfl (.nil_own _) (.cons rfl (.refl _) (.nil _)))), (SubM.of (.keep rfl rfl (.refl _) (.nil _)) (.add (.nil _)))⟩ ?_
  rintro _ m ⟨out97, x99, i98, hI, rfl⟩
  obtain ⟨ag1, hag1, h⟩ : ∃ ag, (∀ s', ag s' → ∃ m', m' < m ∧ Inv s' m') ∧ class_Bytes_l1 sv1 ag out97 x99 r := ⟨_, fun _ h => h, hS (out97, x99) _ hI⟩
  clear hS hI
  refine xseq ?_
  refine xregion ?_
  refine xvalP (pv_bin2 rfl rfl rfl) rfl rfl ?_
  refine xnil ?_
  refine xthen ?_
  refine xseq ?_
  by_cases hp125 : x99 < 256
  · replace h := h.1 hp125
    refine xcondT' (decide_eq_true hp125) rfl ?_
    refine xskipc ?_
    refine xthen ?_
    refine xseq ?_
    refine xblock ?_
    refine xseq ?_
    refine xregion ?_
    refine xvalP (pv_move rfl) rfl rfl ?_
    refine xvalP (pv_assign rfl) rfl rfl ?_
    refine xnil ?_
    refine xthen ?_
    refine xseq ?_
    refine xregion ?_
    refine xval (qv_loadP 0 [] ((List.map ew sv1.l).flatten) [] (by first | rfl | exact (List.append_nil _).symm | exact List.append_nil _ | exact List.append_assoc _ _ _ | exact (List.append_assoc _ _ _).symm | exact congrArg _ (List.append_nil _).symm | exact congrArg _ (List.append_nil _) | (simp; done) | (simp [cellsS]; done)) (by first | rfl | exact seg_lenE (by rfl) | exact len_app rfl (seg_lenE (by rfl)) (by rfl) | exact len_app (seg_lenE (by rfl)) rfl (by rfl) | exact len_app rfl (len_app (seg_lenE (by rfl)) rfl (by rfl)) (by rfl) | (simp only [seg_len, cellsS, List.length_append, List.length_cons, List.length_nil]; done) | (simp only [seg_len, cellsS, List.length_append, List.length_cons, List.length_nil]; rfl)) (by first | rfl | exact seg_lenE (by rfl) | exact len_app rfl (seg_lenE (by rfl)) (by rfl) | exact len_app (seg_lenE (by rfl)) rfl (by rfl) | exact len_app rfl (len_app (seg_lenE (by rfl)) rfl (by rfl)) (by rfl) | (simp only [seg_len, cellsS, List.length_append, List.length_cons, List.length_nil]; done) | (simp only [seg_len, cellsS, List.length_append, List.length_cons, List.length_nil]; rfl)) (part_all (seg_lenE (by rfl))) ShpC.h rfl rfl) rfl rfl ?_
    refine xvalP (pv_move rfl) rfl rfl ?_
    obtain ⟨c136, h135, h⟩ := h
    refine xvalP (pv_convW h135 UndC.h UndC.h rfl) rfl rfl ?_
    obtain ⟨y138, h137, h⟩ := h
    refine xcall0 (class_Has_con sv1 c136 _ h137) Try.func16 (by kernel_rfl) rfl (.cons rfl (.refl _) (.cons rfl (.refl _) .nil)) rfl rfl ?_
    refine xnil ?_
    refine xthen ?_
    by_cases hp139 : y138 = true
    · replace h := h.1 hp139
      refine xcondT' hp139 rfl ?_
      refine xregion ?_
      refine xvalP (pv_move rfl) rfl rfl ?_
      refine xvalP (pv_move rfl) rfl rfl ?_
      obtain ⟨c141, h140, h⟩ := h
      refine xvalP (pv_convW h140 UndC.h UndC.h rfl) rfl rfl ?_
      refine xbuildSliceM (f := eb) [c141] UndC.h InfC.h rfl rfl (by first | exact wkR_of rfl | (repeat (first | exact WkR.nil | refine WkR.cons (by (repeat (first | exact WkL.nil | refine WkL.cons (by first | with_reducible exact Wk.refl _ | exact Wk.nil_own _ | exact Wk.nil_pl _ | with_reducible exact Wk.tok _ _ _ | exact Wk.tok _ _ _ | exact Wk.eq (by first | rfl | (simp []; done) | (simp []; omega))) ?_))) ?_))) rfl rfl rfl rfl fun s15 => ?_
      obtain ⟨h142, h⟩ := h
      refine xappendM (l := out97) (l2 := [c141]) 1 h142 UndC.h InfC.h rfl rfl rfl (.refl _) rfl rfl rfl fun i143 => ?_
      refine xvalP (pv_assign rfl) rfl rfl ?_
      refine xnil ?_
      refine xin_normal ?_
      refine xthen ?_
      refine xregion ?_
      obtain ⟨h144, h⟩ := h
      refine xvalP (pv_addI h144 rfl rfl) rfl rfl ?_
      refine xvalP (pv_move rfl) rfl rfl ?_
      refine xnil ?_
      obtain ⟨m', hm, hI⟩ := hag1 _ h
      exact xagain ⟨(out97 ++ [c141]), (x99 + 1), i143, hI, rfl⟩ hm ⟨(.cons rfl (.refl _) (.cons rfl (.refl _) (.cons rfl (.refl _) (.nil _)))), (SubM.of (.keep rfl rfl (.refl _) (.nil _)) (.drop (.keep rfl (.nil _))))⟩
    · replace h := h.2 hp139
      refine xcondF' (b_f hp139) rfl ?_
      refine xskipc ?_
      refine xin_normal ?_
      refine xthen ?_
      refine xregion ?_
      obtain ⟨h145, h⟩ := h
      refine xvalP (pv_addI h145 rfl rfl) rfl rfl ?_
      refine xvalP (pv_move rfl) rfl rfl ?_
      refine xnil ?_
      obtain ⟨m', hm, hI⟩ := hag1 _ h
      exact xagain ⟨out97, (x99 + 1), i98, hI, rfl⟩ hm ⟨(.cons rfl (.refl _) (.cons rfl (.refl _) (.cons rfl (.refl _) (.nil _)))), (SubM.of (.keep rfl rfl (.refl _) (.nil _)) (.keep rfl (.nil _)))⟩
  · replace h := h.2 hp125
    refine xcondF' (decide_eq_false hp125) rfl ?_
    refine xexit ?_
    refine xthen_exit ?_
    refine xthen_exit ?_
    refine xin_same rfl ?_
    refine xthen ?_
    refine xseq ?_
    refine xregion ?_
    refine xvalP (pv_move rfl) rfl rfl ?_
    refine xvalP (pv_assign rfl) rfl rfl ?_
    refine xnil ?_
    refine xthen ?_
    refine xretc ?_
    replace h := h.symm
    subst h
    exact xret1 hg rfl rfl (.refl _) (SubM.of (.nil _) (.keep rfl (.nil _))) ⟨i98, rfl, rfl, rfl⟩
end Go.Proofs.Ytgplmognfmjllaa
