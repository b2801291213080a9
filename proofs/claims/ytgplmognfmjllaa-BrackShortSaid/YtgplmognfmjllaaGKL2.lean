/- What functions' texts ask for, and the walks that show it (printed by a program). -/
import Derived.Test.YtgplmognfmjllaaGK
namespace Go.Proofs.Ytgplmognfmjllaa
/-- palinodelaw07.BrackShort -/
def palinodelaw07_BrackShort_j1 (x64 : Bool) (r : Bool) : Prop :=
  r = x64
def palinodelaw07_BrackShort_R (x1 : List UInt8) (x2 : UInt8) (x3 : UInt8) (r : Bool) : Prop :=
  ((60 < (x1.length : Int) → ∃ y13 : Bool, palinodelaw07_awake_R y13 ∧ r = y13) ∧ (¬ (60 < (x1.length : Int)) → ∃ y15 : (Arr 4 (UInt64)) × Int × Int, brack_Parse_R x1 0 y15 ∧ ((¬ (y15.2.2 = 0) → ∃ y23 : Bool, palinodelaw07_awake_R y23 ∧ r = y23) ∧ (¬ (¬ (y15.2.2 = 0)) → ((y15.2.1 < 1 → r = false) ∧ (¬ (y15.2.1 < 1) → (((x1.length : Int) < y15.2.1 → r = false) ∧ (¬ ((x1.length : Int) < y15.2.1) → (0 ≤ (y15.2.1 : Int) ∧ (y15.2.1 : Int) ≤ (x1.length : Int)) ∧ Room ((([] : List UInt8)).length + ((x1.take (y15.2.1 : Int).toNat)).length) 1 ∧ Room (((([] : List UInt8) ++ (x1.take (y15.2.1 : Int).toNat))).length + ([x3]).length) 1 ∧ ∃ y48 : (Arr 4 (UInt64)) × Int × Int, brack_Parse_R ((([] : List UInt8) ++ (x1.take (y15.2.1 : Int).toNat)) ++ [x3]) 0 y48 ∧ (y15.2.1 : Int) ≠ 0 ∧ (0 ≤ ((((x2.toNat : Int) : Int).tmod (y15.2.1)) : Int) ∧ ((((x2.toNat : Int) : Int).tmod (y15.2.1)) : Int) ≤ (x1.length : Int)) ∧ ∃ y53 : (Arr 4 (UInt64)) × Int × Int, brack_Parse_R (x1.take ((((x2.toNat : Int) : Int).tmod (y15.2.1)) : Int).toNat) 0 y53 ∧ (((y48.1 : Arr 4 (UInt64)) = y15.1 → ((y48.2.1 = y15.2.1 → ((y48.2.2 = 0 → ((¬ (y53.2.2 = 0) → ∃ y74 : Bool, palinodelaw07_awake_R y74 ∧ palinodelaw07_BrackShort_j1 y74 r) ∧ (¬ (¬ (y53.2.2 = 0)) → palinodelaw07_BrackShort_j1 false r))) ∧ (¬ (y48.2.2 = 0) → palinodelaw07_BrackShort_j1 false r))) ∧ (¬ (y48.2.1 = y15.2.1) → palinodelaw07_BrackShort_j1 false r))) ∧ (¬ ((y48.1 : Arr 4 (UInt64)) = y15.1) → palinodelaw07_BrackShort_j1 false r))))))))))
def palinodelaw07_BrackShort_j1_ev (fuel : Nat) (x64 : Bool) : Option (Bool) :=
  some x64
theorem palinodelaw07_BrackShort_j1_ok {fuel : Nat} {x64 : Bool} {r : Bool} (h : palinodelaw07_BrackShort_j1_ev fuel x64 = some r) : palinodelaw07_BrackShort_j1 x64 r := by
  unfold palinodelaw07_BrackShort_j1_ev at h
  unfold palinodelaw07_BrackShort_j1
  exact (Option.some.inj h).symm
def palinodelaw07_BrackShort_ev (fuel : Nat) (x1 : List UInt8) (x2 : UInt8) (x3 : UInt8) : Option (Bool) :=
  (if 60 < (x1.length : Int) then ((palinodelaw07_awake_ev fuel).bind fun y13 => some y13) else ((brack_Parse_ev fuel x1 0).bind fun y15 => (if ¬ (y15.2.2 = 0) then ((palinodelaw07_awake_ev fuel).bind fun y23 => some y23) else (if y15.2.1 < 1 then some false else (if (x1.length : Int) < y15.2.1 then some false else (if (0 ≤ (y15.2.1 : Int) ∧ (y15.2.1 : Int) ≤ (x1.length : Int)) then (if Room ((([] : List UInt8)).length + ((x1.take (y15.2.1 : Int).toNat)).length) 1 then (if Room (((([] : List UInt8) ++ (x1.take (y15.2.1 : Int).toNat))).length + ([x3]).length) 1 then ((brack_Parse_ev fuel ((([] : List UInt8) ++ (x1.take (y15.2.1 : Int).toNat)) ++ [x3]) 0).bind fun y48 => (if (y15.2.1 : Int) ≠ 0 then (if (0 ≤ ((((x2.toNat : Int) : Int).tmod (y15.2.1)) : Int) ∧ ((((x2.toNat : Int) : Int).tmod (y15.2.1)) : Int) ≤ (x1.length : Int)) then ((brack_Parse_ev fuel (x1.take ((((x2.toNat : Int) : Int).tmod (y15.2.1)) : Int).toNat) 0).bind fun y53 => (if (y48.1 : Arr 4 (UInt64)) = y15.1 then (if y48.2.1 = y15.2.1 then (if y48.2.2 = 0 then (if ¬ (y53.2.2 = 0) then ((palinodelaw07_awake_ev fuel).bind fun y74 => palinodelaw07_BrackShort_j1_ev fuel y74) else palinodelaw07_BrackShort_j1_ev fuel false) else palinodelaw07_BrackShort_j1_ev fuel false) else palinodelaw07_BrackShort_j1_ev fuel false) else palinodelaw07_BrackShort_j1_ev fuel false)) else none) else none)) else none) else none) else none))))))
theorem palinodelaw07_BrackShort_ok {fuel : Nat} {x1 : List UInt8} {x2 : UInt8} {x3 : UInt8} {r : Bool} (h : palinodelaw07_BrackShort_ev fuel x1 x2 x3 = some r) : palinodelaw07_BrackShort_R x1 x2 x3 r := by
  unfold palinodelaw07_BrackShort_ev at h
  unfold palinodelaw07_BrackShort_R
  refine ⟨fun g219 => ?_, fun g219 => ?_⟩
  · rw [if_pos g219] at h
    obtain ⟨q220, g220, h⟩ := bind_ok h
    refine ⟨q220, palinodelaw07_awake_ok g220, ?_⟩
    exact (Option.some.inj h).symm
  · rw [if_neg g219] at h
    obtain ⟨q221, g221, h⟩ := bind_ok h
    refine ⟨q221, brack_Parse_ok g221, ?_⟩
    refine ⟨fun g222 => ?_, fun g222 => ?_⟩
    · rw [if_pos g222] at h
      obtain ⟨q223, g223, h⟩ := bind_ok h
      refine ⟨q223, palinodelaw07_awake_ok g223, ?_⟩
      exact (Option.some.inj h).symm
    · rw [if_neg g222] at h
      refine ⟨fun g224 => ?_, fun g224 => ?_⟩
      · rw [if_pos g224] at h
        exact (Option.some.inj h).symm
      · rw [if_neg g224] at h
        refine ⟨fun g225 => ?_, fun g225 => ?_⟩
        · rw [if_pos g225] at h
          exact (Option.some.inj h).symm
        · rw [if_neg g225] at h
          obtain ⟨g226, h⟩ := if_ok h
          refine ⟨g226, ?_⟩
          obtain ⟨g227, h⟩ := if_ok h
          refine ⟨g227, ?_⟩
          obtain ⟨g228, h⟩ := if_ok h
          refine ⟨g228, ?_⟩
          obtain ⟨q229, g229, h⟩ := bind_ok h
          refine ⟨q229, brack_Parse_ok g229, ?_⟩
          obtain ⟨g230, h⟩ := if_ok h
          refine ⟨g230, ?_⟩
          obtain ⟨g231, h⟩ := if_ok h
          refine ⟨g231, ?_⟩
          obtain ⟨q232, g232, h⟩ := bind_ok h
          refine ⟨q232, brack_Parse_ok g232, ?_⟩
          refine ⟨fun g233 => ?_, fun g233 => ?_⟩
          · rw [if_pos g233] at h
            refine ⟨fun g234 => ?_, fun g234 => ?_⟩
            · rw [if_pos g234] at h
              refine ⟨fun g235 => ?_, fun g235 => ?_⟩
              · rw [if_pos g235] at h
                refine ⟨fun g236 => ?_, fun g236 => ?_⟩
                · rw [if_pos g236] at h
                  obtain ⟨q237, g237, h⟩ := bind_ok h
                  refine ⟨q237, palinodelaw07_awake_ok g237, ?_⟩
                  exact palinodelaw07_BrackShort_j1_ok h
                · rw [if_neg g236] at h
                  exact palinodelaw07_BrackShort_j1_ok h
              · rw [if_neg g235] at h
                exact palinodelaw07_BrackShort_j1_ok h
            · rw [if_neg g234] at h
              exact palinodelaw07_BrackShort_j1_ok h
          · rw [if_neg g233] at h
            exact palinodelaw07_BrackShort_j1_ok h
set_option maxHeartbeats 4000000 in
theorem palinodelaw07_BrackShort_con (x1 : List UInt8) (x2 : UInt8) (x3 : UInt8) (r : Bool) (h : palinodelaw07_BrackShort_R x1 x2 x3 r) : Con Try.prog 4 [.sl 1 none (List.map eb x1), .v (.int .u8 ((x2.toNat : Int))), .v (.int .u8 ((x3.toNat : Int)))] [] [] (Ret (.v (.bool r))) := by
  refine xenter Try.func4 rfl rfl fun g hg => ?_
  simp only [Try.ntmps4, slots]
  refine xseq ?_
  refine xregion ?_
  refine xvalP (pv_assign rfl) rfl rfl ?_
  refine xnil ?_
  refine xthen ?_
  refine xseq ?_
  refine xseq ?_
  refine xregion ?_
  refine xvalP (pv_move rfl) rfl rfl ?_
  refine xvalP (pv_lenM UndC.h rfl) rfl rfl ?_
  refine xvalP (pv_bin2 rfl rfl rfl) rfl rfl ?_
  refine xnil ?_
  refine xthen ?_
  by_cases hp11 : 60 < (x1.length : Int)
  · replace h := h.1 hp11
    refine xcondT' (decide_eq_true hp11) rfl ?_
    refine xseq ?_
    refine xregion ?_
    obtain ⟨y13, h12, h⟩ := h
    refine xcall0 (palinodelaw07_awake_con _ h12) Try.func6 (by kernel_rfl) rfl .nil rfl rfl ?_
    refine xvalP (pv_assign rfl) rfl rfl ?_
    refine xnil ?_
    refine xthen ?_
    refine xretc ?_
    refine xthen_ret ?_
    replace h := h.symm
    subst h
    exact xret1 hg rfl rfl (.refl _) (SubM.of (.nil _) (.nil _)) ⟨rfl, rfl, rfl⟩
  · replace h := h.2 hp11
    refine xcondF' (decide_eq_false hp11) rfl ?_
    refine xskipc ?_
    refine xthen ?_
    refine xseq ?_
    refine xregion ?_
    refine xvalP (pv_move rfl) rfl rfl ?_
    obtain ⟨y15, h14, h⟩ := h
    refine xcallF (Fb := []) (Ft := []) (brack_Parse_con x1 0 _ h14) Try.func7 (by kernel_rfl) rfl (.cons rfl (.refl _) (.cons rfl (.refl _) .nil)) (by exact (SubM.of (by repeat (first | with_reducible exact SubB.refl _ | exact SubB.nil _ | refine SubB.keep rfl rfl (by first | with_reducible exact WkL.refl _ | ((repeat (first | exact WkL.nil | refine WkL.cons (by first | with_reducible exact Wk.refl _ | exact Wk.nil_own _ | exact Wk.nil_pl _ | with_reducible exact Wk.tok _ _ _ | exact Wk.tok _ _ _ | exact Wk.eq (by first | rfl | (simp []; done) | (simp []; omega))) ?_)); done) | exact WkL.refl _) ?_ | refine SubB.drop ?_)) (by repeat (first | exact SubT.nil _ | refine SubT.add ?_ | (refine SubT.keep ?_ ?_; focus (first | with_reducible rfl | (simp []; done))) | refine SubT.drop ?_)))) rfl rfl ?_
    rintro _ _ _ ⟨rfl, rfl, rfl⟩
    simp only [List.nil_append, List.cons_append]
    refine xvalP (pv_move rfl) rfl rfl ?_
    refine xvalP (pv_extract rfl rfl) rfl rfl ?_
    refine xvalP (pv_extract rfl rfl) rfl rfl ?_
    refine xvalP (pv_extract rfl rfl) rfl rfl ?_
    refine xalloc InfC.h rfl rfl fun b7 => ?_
    refine xreb 0 ((List.map ew ((Arr.rep 4 (0 : UInt64))).l).flatten) rfl rfl ?_
    refine xstoreP 0 [] ((List.map ew ((Arr.rep 4 (0 : UInt64))).l).flatten) [] (by first | rfl | exact (List.append_nil _).symm | exact List.append_nil _ | exact List.append_assoc _ _ _ | exact (List.append_assoc _ _ _).symm | exact congrArg _ (List.append_nil _).symm | exact congrArg _ (List.append_nil _) | (simp; done) | (simp [cellsS]; done)) (by first | rfl | exact seg_lenE (by rfl) | exact len_app rfl (seg_lenE (by rfl)) (by rfl) | exact len_app (seg_lenE (by rfl)) rfl (by rfl) | exact len_app rfl (len_app (seg_lenE (by rfl)) rfl (by rfl)) (by rfl) | (simp only [seg_len, cellsS, List.length_append, List.length_cons, List.length_nil]; done) | (simp only [seg_len, cellsS, List.length_append, List.length_cons, List.length_nil]; rfl)) (by first | rfl | exact seg_lenE (by rfl) | exact len_app rfl (seg_lenE (by rfl)) (by rfl) | exact len_app (seg_lenE (by rfl)) rfl (by rfl) | exact len_app rfl (len_app (seg_lenE (by rfl)) rfl (by rfl)) (by rfl) | (simp only [seg_len, cellsS, List.length_append, List.length_cons, List.length_nil]; done) | (simp only [seg_len, cellsS, List.length_append, List.length_cons, List.length_nil]; rfl)) ShpC.h rfl rfl rfl rfl (by first | rfl | exact seg_lenE (by rfl) | exact len_app rfl (seg_lenE (by rfl)) (by rfl) | exact len_app (seg_lenE (by rfl)) rfl (by rfl) | exact len_app rfl (len_app (seg_lenE (by rfl)) rfl (by rfl)) (by rfl) | (simp only [seg_len, cellsS, List.length_append, List.length_cons, List.length_nil]; done) | (simp only [seg_len, cellsS, List.length_append, List.length_cons, List.length_nil]; rfl)) rfl ?_
    refine xreb 0 ((List.map ew y15.1.l).flatten) rfl (by first | rfl | exact (List.append_nil _).symm | exact List.append_nil _ | exact List.append_assoc _ _ _ | exact (List.append_assoc _ _ _).symm | exact congrArg _ (List.append_nil _).symm | exact congrArg _ (List.append_nil _) | (simp; done) | (simp [cellsS]; done)) ?_
    refine xvalP (pv_assign rfl) rfl rfl ?_
    refine xvalP (pv_assign rfl) rfl rfl ?_
    refine xnil ?_
    refine xthen ?_
    refine xseq ?_
    refine xseq ?_
    refine xregion ?_
    refine xvalP (pv_move rfl) rfl rfl ?_
    refine xvalP (pv_bin2 rfl rfl rfl) rfl rfl ?_
    refine xnil ?_
    refine xthen ?_
    by_cases hp21 : ¬ (y15.2.2 = 0)
    · replace h := h.1 hp21
      refine xcondT' (not_t (decide_eq_false hp21)) rfl ?_
      refine xseq ?_
      refine xregion ?_
      obtain ⟨y23, h22, h⟩ := h
      refine xcall0 (palinodelaw07_awake_con _ h22) Try.func6 (by kernel_rfl) rfl .nil rfl rfl ?_
      refine xvalP (pv_assign rfl) rfl rfl ?_
      refine xnil ?_
      refine xthen ?_
      refine xretc ?_
      refine xthen_ret ?_
      replace h := h.symm
      subst h
      exact xret1 hg rfl rfl (.refl _) (SubM.of (.nil _) (.nil _)) ⟨rfl, rfl, rfl⟩
    · replace h := h.2 hp21
      refine xcondF' (not_f (decide_eq_true (Decidable.of_not_not hp21))) rfl ?_
      refine xskipc ?_
      refine xthen ?_
      refine xseq ?_
      refine xseq ?_
      refine xregion ?_
      refine xvalP (pv_move rfl) rfl rfl ?_
      refine xvalP (pv_bin2 rfl rfl rfl) rfl rfl ?_
      refine xvalP (pv_move rfl) rfl rfl ?_
      by_cases hp38 : y15.2.1 < 1
      · replace h := h.1 hp38
        refine xsetB 31 (decide_eq_true hp38) rfl ?_
        refine xskip rfl rfl ?_
        refine xskip rfl rfl ?_
        refine xskip rfl rfl ?_
        refine xskip rfl rfl ?_
        refine xvalP (pv_pick rfl rfl) rfl rfl ?_
        refine xnil ?_
        refine xthen ?_
        refine xcondT rfl ?_
        refine xseq ?_
        refine xregion ?_
        refine xvalP (pv_assign rfl) rfl rfl ?_
        refine xnil ?_
        refine xthen ?_
        refine xretc ?_
        refine xthen_ret ?_
        replace h := h.symm
        subst h
        exact xret1 hg rfl rfl (.refl _) (SubM.of (.nil _) (.nil _)) ⟨rfl, rfl, rfl⟩
      · replace h := h.2 hp38
        refine xsetB 31 (decide_eq_false hp38) rfl ?_
        refine xvalP (pv_move rfl) rfl rfl ?_
        refine xvalP (pv_move rfl) rfl rfl ?_
        refine xvalP (pv_lenM UndC.h rfl) rfl rfl ?_
        refine xvalP (pv_bin2 rfl rfl rfl) rfl rfl ?_
        refine xvalP (pv_pick rfl rfl) rfl rfl ?_
        refine xnil ?_
        refine xthen ?_
        by_cases hp41 : (x1.length : Int) < y15.2.1
        · replace h := h.1 hp41
          refine xcondT' (decide_eq_true hp41) rfl ?_
          refine xseq ?_
          refine xregion ?_
          refine xvalP (pv_assign rfl) rfl rfl ?_
          refine xnil ?_
          refine xthen ?_
          refine xretc ?_
          refine xthen_ret ?_
          replace h := h.symm
          subst h
          exact xret1 hg rfl rfl (.refl _) (SubM.of (.nil _) (.nil _)) ⟨rfl, rfl, rfl⟩
        · replace h := h.2 hp41
          refine xcondF' (decide_eq_false hp41) rfl ?_
          refine xskipc ?_
          refine xthen ?_
          refine xseq ?_
          refine xregion ?_
          refine xbuildSliceM (f := eb) ([] : List UInt8) UndC.h InfC.h rfl rfl (by first | exact wkR_of rfl | (repeat (first | exact WkR.nil | refine WkR.cons (by (repeat (first | exact WkL.nil | refine WkL.cons (by first | with_reducible exact Wk.refl _ | exact Wk.nil_own _ | exact Wk.nil_pl _ | with_reducible exact Wk.tok _ _ _ | exact Wk.tok _ _ _ | exact Wk.eq (by first | rfl | (simp []; done) | (simp []; omega))) ?_))) ?_))) rfl rfl rfl rfl fun s38 => ?_
          refine xvalP (pv_move rfl) rfl rfl ?_
          refine xvalP (pv_move rfl) rfl rfl ?_
          obtain ⟨h42, h⟩ := h
          refine xvalP (pv_sliceHi h42 UndC.h ShpC.h rfl rfl) rfl rfl ?_
          obtain ⟨h43, h⟩ := h
          refine xappendM (l := ([] : List UInt8)) (l2 := (x1.take (y15.2.1 : Int).toNat)) 0 h43 UndC.h InfC.h rfl rfl rfl (.refl _) rfl rfl rfl fun i44 => ?_
          refine xvalP (pv_move rfl) rfl rfl ?_
          refine xbuildSliceM (f := eb) [x3] UndC.h InfC.h rfl rfl (by first | exact wkR_of rfl | (repeat (first | exact WkR.nil | refine WkR.cons (by (repeat (first | exact WkL.nil | refine WkL.cons (by first | with_reducible exact Wk.refl _ | exact Wk.nil_own _ | exact Wk.nil_pl _ | with_reducible exact Wk.tok _ _ _ | exact Wk.tok _ _ _ | exact Wk.eq (by first | rfl | (simp []; done) | (simp []; omega))) ?_))) ?_))) rfl rfl rfl rfl fun s44 => ?_
          obtain ⟨h45, h⟩ := h
          refine xappendM (l := (([] : List UInt8) ++ (x1.take (y15.2.1 : Int).toNat))) (l2 := [x3]) 1 h45 UndC.h InfC.h rfl rfl rfl (.refl _) rfl rfl rfl fun i46 => ?_
          obtain ⟨y48, h47, h⟩ := h
          refine xcallF (Fb := [⟨b7, 26, ((List.map ew y15.1.l).flatten)⟩]) (Ft := [⟨(some (s44, 1)), 5, 1, ([x3]).length⟩, ⟨i46, 5, 1, (((([] : List UInt8) ++ (x1.take (y15.2.1 : Int).toNat)) ++ [x3])).length⟩]) (brack_Parse_con ((([] : List UInt8) ++ (x1.take (y15.2.1 : Int).toNat)) ++ [x3]) 0 _ h47) Try.func7 (by kernel_rfl) rfl (.cons rfl (.tok _ _ _) (.cons rfl (.refl _) .nil)) (by exact (SubM.of (by repeat (first | with_reducible exact SubB.refl _ | exact SubB.nil _ | refine SubB.keep rfl rfl (by first | with_reducible exact WkL.refl _ | ((repeat (first | exact WkL.nil | refine WkL.cons (by first | with_reducible exact Wk.refl _ | exact Wk.nil_own _ | exact Wk.nil_pl _ | with_reducible exact Wk.tok _ _ _ | exact Wk.tok _ _ _ | exact Wk.eq (by first | rfl | (simp []; done) | (simp []; omega))) ?_)); done) | exact WkL.refl _) ?_ | refine SubB.drop ?_)) (by repeat (first | exact SubT.nil _ | refine SubT.add ?_ | (refine SubT.keep ?_ ?_; focus (first | with_reducible rfl | (simp []; done))) | refine SubT.drop ?_)))) rfl rfl ?_
          rintro _ _ _ ⟨rfl, rfl, rfl⟩
          simp only [List.nil_append, List.cons_append]
          refine xvalP (pv_move rfl) rfl rfl ?_
          refine xvalP (pv_extract rfl rfl) rfl rfl ?_
          refine xvalP (pv_extract rfl rfl) rfl rfl ?_
          refine xvalP (pv_extract rfl rfl) rfl rfl ?_
          refine xalloc InfC.h rfl rfl fun b10 => ?_
          refine xreb 0 ((List.map ew ((Arr.rep 4 (0 : UInt64))).l).flatten) rfl rfl ?_
          refine xstoreP 0 [] ((List.map ew ((Arr.rep 4 (0 : UInt64))).l).flatten) [] (by first | rfl | exact (List.append_nil _).symm | exact List.append_nil _ | exact List.append_assoc _ _ _ | exact (List.append_assoc _ _ _).symm | exact congrArg _ (List.append_nil _).symm | exact congrArg _ (List.append_nil _) | (simp; done) | (simp [cellsS]; done)) (by first | rfl | exact seg_lenE (by rfl) | exact len_app rfl (seg_lenE (by rfl)) (by rfl) | exact len_app (seg_lenE (by rfl)) rfl (by rfl) | exact len_app rfl (len_app (seg_lenE (by rfl)) rfl (by rfl)) (by rfl) | (simp only [seg_len, cellsS, List.length_append, List.length_cons, List.length_nil]; done) | (simp only [seg_len, cellsS, List.length_append, List.length_cons, List.length_nil]; rfl)) (by first | rfl | exact seg_lenE (by rfl) | exact len_app rfl (seg_lenE (by rfl)) (by rfl) | exact len_app (seg_lenE (by rfl)) rfl (by rfl) | exact len_app rfl (len_app (seg_lenE (by rfl)) rfl (by rfl)) (by rfl) | (simp only [seg_len, cellsS, List.length_append, List.length_cons, List.length_nil]; done) | (simp only [seg_len, cellsS, List.length_append, List.length_cons, List.length_nil]; rfl)) ShpC.h rfl rfl rfl rfl (by first | rfl | exact seg_lenE (by rfl) | exact len_app rfl (seg_lenE (by rfl)) (by rfl) | exact len_app (seg_lenE (by rfl)) rfl (by rfl) | exact len_app rfl (len_app (seg_lenE (by rfl)) rfl (by rfl)) (by rfl) | (simp only [seg_len, cellsS, List.length_append, List.length_cons, List.length_nil]; done) | (simp only [seg_len, cellsS, List.length_append, List.length_cons, List.length_nil]; rfl)) rfl ?_
          refine xreb 0 ((List.map ew y48.1.l).flatten) rfl (by first | rfl | exact (List.append_nil _).symm | exact List.append_nil _ | exact List.append_assoc _ _ _ | exact (List.append_assoc _ _ _).symm | exact congrArg _ (List.append_nil _).symm | exact congrArg _ (List.append_nil _) | (simp; done) | (simp [cellsS]; done)) ?_
          refine xvalP (pv_assign rfl) rfl rfl ?_
          refine xvalP (pv_assign rfl) rfl rfl ?_
          refine xnil ?_
          refine xthen ?_
          refine xseq ?_
          refine xregion ?_
          refine xvalP (pv_move rfl) rfl rfl ?_
          refine xvalP (pv_move rfl) rfl rfl ?_
          refine xvalP (pv_convW (w8 x2) UndC.h UndC.h rfl) rfl rfl ?_
          refine xvalP (pv_move rfl) rfl rfl ?_
          obtain ⟨h50, h⟩ := h
          refine xvalP (pv_remW h50 rfl rfl rfl rfl) rfl rfl ?_
          obtain ⟨h51, h⟩ := h
          refine xvalP (pv_sliceHi h51 UndC.h ShpC.h rfl rfl) rfl rfl ?_
          obtain ⟨y53, h52, h⟩ := h
          refine xcallF (Fb := [⟨b10, 26, ((List.map ew y48.1.l).flatten)⟩, ⟨b7, 26, ((List.map ew y15.1.l).flatten)⟩]) (Ft := [⟨(some (s44, 1)), 5, 1, ([x3]).length⟩, ⟨i46, 5, 1, (((([] : List UInt8) ++ (x1.take (y15.2.1 : Int).toNat)) ++ [x3])).length⟩]) (brack_Parse_con (x1.take ((((x2.toNat : Int) : Int).tmod (y15.2.1)) : Int).toNat) 0 _ h52) Try.func7 (by kernel_rfl) rfl (.cons rfl (.refl _) (.cons rfl (.refl _) .nil)) (by exact (SubM.of (by repeat (first | with_reducible exact SubB.refl _ | exact SubB.nil _ | refine SubB.keep rfl rfl (by first | with_reducible exact WkL.refl _ | ((repeat (first | exact WkL.nil | refine WkL.cons (by first | with_reducible exact Wk.refl _ | exact Wk.nil_own _ | exact Wk.nil_pl _ | with_reducible exact Wk.tok _ _ _ | exact Wk.tok _ _ _ | exact Wk.eq (by first | rfl | (simp []; done) | (simp []; omega))) ?_)); done) | exact WkL.refl _) ?_ | refine SubB.drop ?_)) (by repeat (first | exact SubT.nil _ | refine SubT.add ?_ | (refine SubT.keep ?_ ?_; focus (first | with_reducible rfl | (simp []; done))) | refine SubT.drop ?_)))) rfl rfl ?_
          rintro _ _ _ ⟨rfl, rfl, rfl⟩
          simp only [List.nil_append, List.cons_append]
          refine xvalP (pv_move rfl) rfl rfl ?_
          refine xvalP (pv_extract rfl rfl) rfl rfl ?_
          refine xvalP (pv_extract rfl rfl) rfl rfl ?_
          refine xvalP (pv_extract rfl rfl) rfl rfl ?_
          refine xalloc InfC.h rfl rfl fun b13 => ?_
          refine xreb 0 ((List.map ew ((Arr.rep 4 (0 : UInt64))).l).flatten) rfl rfl ?_
          refine xstoreP 0 [] ((List.map ew ((Arr.rep 4 (0 : UInt64))).l).flatten) [] (by first | rfl | exact (List.append_nil _).symm | exact List.append_nil _ | exact List.append_assoc _ _ _ | exact (List.append_assoc _ _ _).symm | exact congrArg _ (List.append_nil _).symm | exact congrArg _ (List.append_nil _) | (simp; done) | (simp [cellsS]; done)) (by first | rfl | exact seg_lenE (by rfl) | exact len_app rfl (seg_lenE (by rfl)) (by rfl) | exact len_app (seg_lenE (by rfl)) rfl (by rfl) | exact len_app rfl (len_app (seg_lenE (by rfl)) rfl (by rfl)) (by rfl) | (simp only [seg_len, cellsS, List.length_append, List.length_cons, List.length_nil]; done) | (simp only [seg_len, cellsS, List.length_append, List.length_cons, List.length_nil]; rfl)) (by first | rfl | exact seg_lenE (by rfl) | exact len_app rfl (seg_lenE (by rfl)) (by rfl) | exact len_app (seg_lenE (by rfl)) rfl (by rfl) | exact len_app rfl (len_app (seg_lenE (by rfl)) rfl (by rfl)) (by rfl) | (simp only [seg_len, cellsS, List.length_append, List.length_cons, List.length_nil]; done) | (simp only [seg_len, cellsS, List.length_append, List.length_cons, List.length_nil]; rfl)) ShpC.h rfl rfl rfl rfl (by first | rfl | exact seg_lenE (by rfl) | exact len_app rfl (seg_lenE (by rfl)) (by rfl) | exact len_app (seg_lenE (by rfl)) rfl (by rfl) | exact len_app rfl (len_app (seg_lenE (by rfl)) rfl (by rfl)) (by rfl) | (simp only [seg_len, cellsS, List.length_append, List.length_cons, List.length_nil]; done) | (simp only [seg_len, cellsS, List.length_append, List.length_cons, List.length_nil]; rfl)) rfl ?_
          refine xreb 0 ((List.map ew y53.1.l).flatten) rfl (by first | rfl | exact (List.append_nil _).symm | exact List.append_nil _ | exact List.append_assoc _ _ _ | exact (List.append_assoc _ _ _).symm | exact congrArg _ (List.append_nil _).symm | exact congrArg _ (List.append_nil _) | (simp; done) | (simp [cellsS]; done)) ?_
          refine xvalP (pv_assign rfl) rfl rfl ?_
          refine xvalP (pv_assign rfl) rfl rfl ?_
          refine xnil ?_
          refine xthen ?_
          refine xseqM (fun σ => ∃ (x64 : Bool), palinodelaw07_BrackShort_j1 x64 r ∧ σ = ⟨[(6, .v (.bool x64))], [], []⟩) ?_ ?_
          · refine xregion ?_
            refine xval (qv_loadP 1 [] ((List.map ew y48.1.l).flatten) [] (by first | rfl | exact (List.append_nil _).symm | exact List.append_nil _ | exact List.append_assoc _ _ _ | exact (List.append_assoc _ _ _).symm | exact congrArg _ (List.append_nil _).symm | exact congrArg _ (List.append_nil _) | (simp; done) | (simp [cellsS]; done)) (by first | rfl | exact seg_lenE (by rfl) | exact len_app rfl (seg_lenE (by rfl)) (by rfl) | exact len_app (seg_lenE (by rfl)) rfl (by rfl) | exact len_app rfl (len_app (seg_lenE (by rfl)) rfl (by rfl)) (by rfl) | (simp only [seg_len, cellsS, List.length_append, List.length_cons, List.length_nil]; done) | (simp only [seg_len, cellsS, List.length_append, List.length_cons, List.length_nil]; rfl)) (by first | rfl | exact seg_lenE (by rfl) | exact len_app rfl (seg_lenE (by rfl)) (by rfl) | exact len_app (seg_lenE (by rfl)) rfl (by rfl) | exact len_app rfl (len_app (seg_lenE (by rfl)) rfl (by rfl)) (by rfl) | (simp only [seg_len, cellsS, List.length_append, List.length_cons, List.length_nil]; done) | (simp only [seg_len, cellsS, List.length_append, List.length_cons, List.length_nil]; rfl)) (part_all (seg_lenE (by rfl))) ShpC.h rfl rfl) rfl rfl ?_
            refine xval (qv_loadP 2 [] ((List.map ew y15.1.l).flatten) [] (by first | rfl | exact (List.append_nil _).symm | exact List.append_nil _ | exact List.append_assoc _ _ _ | exact (List.append_assoc _ _ _).symm | exact congrArg _ (List.append_nil _).symm | exact congrArg _ (List.append_nil _) | (simp; done) | (simp [cellsS]; done)) (by first | rfl | exact seg_lenE (by rfl) | exact len_app rfl (seg_lenE (by rfl)) (by rfl) | exact len_app (seg_lenE (by rfl)) rfl (by rfl) | exact len_app rfl (len_app (seg_lenE (by rfl)) rfl (by rfl)) (by rfl) | (simp only [seg_len, cellsS, List.length_append, List.length_cons, List.length_nil]; done) | (simp only [seg_len, cellsS, List.length_append, List.length_cons, List.length_nil]; rfl)) (by first | rfl | exact seg_lenE (by rfl) | exact len_app rfl (seg_lenE (by rfl)) (by rfl) | exact len_app (seg_lenE (by rfl)) rfl (by rfl) | exact len_app rfl (len_app (seg_lenE (by rfl)) rfl (by rfl)) (by rfl) | (simp only [seg_len, cellsS, List.length_append, List.length_cons, List.length_nil]; done) | (simp only [seg_len, cellsS, List.length_append, List.length_cons, List.length_nil]; rfl)) (part_all (seg_lenE (by rfl))) ShpC.h rfl rfl) rfl rfl ?_
            refine xvalP (pv_eqAgg (f := E_palinode_api_Set) (a := y48.1) (b := y15.1) (eqC_arr (t := 26) (e := 24) (f := ew) UndC.h ShpC.h (by kernel_rfl) inferInstance (fun _ => rfl)) (by decide) (by kernel_rfl) (by first | rfl | exact congrArg (fun q => some (Sd.agg q)) (by first | rfl | exact (List.append_nil _).symm | exact List.append_nil _ | exact List.append_assoc _ _ _ | exact (List.append_assoc _ _ _).symm | exact congrArg _ (List.append_nil _).symm | exact congrArg _ (List.append_nil _) | (simp; done) | (simp [cellsS]; done))) (by first | rfl | exact congrArg (fun q => some (Sd.agg q)) (by first | rfl | exact (List.append_nil _).symm | exact List.append_nil _ | exact List.append_assoc _ _ _ | exact (List.append_assoc _ _ _).symm | exact congrArg _ (List.append_nil _).symm | exact congrArg _ (List.append_nil _) | (simp; done) | (simp [cellsS]; done)))) rfl rfl ?_
            refine xvalP (pv_move rfl) rfl rfl ?_
            by_cases hp66 : (y48.1 : Arr 4 (UInt64)) = y15.1
            · replace h := h.1 hp66
              refine xsetB 64 (decide_eq_true hp66) rfl ?_
              refine xvalP (pv_move rfl) rfl rfl ?_
              refine xvalP (pv_move rfl) rfl rfl ?_
              refine xvalP (pv_bin2 rfl rfl rfl) rfl rfl ?_
              refine xvalP (pv_pick rfl rfl) rfl rfl ?_
              refine xvalP (pv_move rfl) rfl rfl ?_
              by_cases hp68 : y48.2.1 = y15.2.1
              · replace h := h.1 hp68
                refine xsetB 69 (decide_eq_true hp68) rfl ?_
                refine xvalP (pv_move rfl) rfl rfl ?_
                refine xvalP (pv_bin2 rfl rfl rfl) rfl rfl ?_
                refine xvalP (pv_pick rfl rfl) rfl rfl ?_
                refine xvalP (pv_move rfl) rfl rfl ?_
                by_cases hp70 : y48.2.2 = 0
                · replace h := h.1 hp70
                  refine xsetB 73 (decide_eq_true hp70) rfl ?_
                  refine xvalP (pv_move rfl) rfl rfl ?_
                  refine xvalP (pv_bin2 rfl rfl rfl) rfl rfl ?_
                  refine xvalP (pv_pick rfl rfl) rfl rfl ?_
                  refine xvalP (pv_move rfl) rfl rfl ?_
                  by_cases hp72 : ¬ (y53.2.2 = 0)
                  · replace h := h.1 hp72
                    refine xsetB 77 (not_t (decide_eq_false hp72)) rfl ?_
                    obtain ⟨y74, h73, h⟩ := h
                    refine xcall0 (palinodelaw07_awake_con _ h73) Try.func6 (by kernel_rfl) rfl .nil rfl rfl ?_
                    refine xvalP (pv_pick rfl rfl) rfl rfl ?_
                    refine xvalP (pv_assign rfl) rfl rfl ?_
                    refine xnil ?_
                    exact xmeet ⟨y74, h, rfl⟩ ⟨(.cons rfl (.refl _) (.nil _)), (SubM.of (.nil _) (.nil _))⟩
                  · replace h := h.2 hp72
                    refine xsetB 77 (not_f (decide_eq_true (Decidable.of_not_not hp72))) rfl ?_
                    refine xskip rfl rfl ?_
                    refine xvalP (pv_pick rfl rfl) rfl rfl ?_
                    refine xvalP (pv_assign rfl) rfl rfl ?_
                    refine xnil ?_
                    exact xmeet ⟨false, h, rfl⟩ ⟨(.cons rfl (.refl _) (.nil _)), (SubM.of (.nil _) (.nil _))⟩
                · replace h := h.2 hp70
                  refine xsetB 73 (decide_eq_false hp70) rfl ?_
                  refine xskip rfl rfl ?_
                  refine xskip rfl rfl ?_
                  refine xvalP (pv_pick rfl rfl) rfl rfl ?_
                  refine xvalP (pv_move rfl) rfl rfl ?_
                  refine xskip rfl rfl ?_
                  refine xvalP (pv_pick rfl rfl) rfl rfl ?_
                  refine xvalP (pv_assign rfl) rfl rfl ?_
                  refine xnil ?_
                  exact xmeet ⟨false, h, rfl⟩ ⟨(.cons rfl (.refl _) (.nil _)), (SubM.of (.nil _) (.nil _))⟩
              · replace h := h.2 hp68
                refine xsetB 69 (decide_eq_false hp68) rfl ?_
                refine xskip rfl rfl ?_
                refine xskip rfl rfl ?_
                refine xvalP (pv_pick rfl rfl) rfl rfl ?_
                refine xvalP (pv_move rfl) rfl rfl ?_
                refine xskip rfl rfl ?_
                refine xskip rfl rfl ?_
                refine xvalP (pv_pick rfl rfl) rfl rfl ?_
                refine xvalP (pv_move rfl) rfl rfl ?_
                refine xskip rfl rfl ?_
                refine xvalP (pv_pick rfl rfl) rfl rfl ?_
                refine xvalP (pv_assign rfl) rfl rfl ?_
                refine xnil ?_
                exact xmeet ⟨false, h, rfl⟩ ⟨(.cons rfl (.refl _) (.nil _)), (SubM.of (.nil _) (.nil _))⟩
            · replace h := h.2 hp66
              refine xsetB 64 (decide_eq_false hp66) rfl ?_
              refine xskip rfl rfl ?_
              refine xskip rfl rfl ?_
              refine xskip rfl rfl ?_
              refine xvalP (pv_pick rfl rfl) rfl rfl ?_
              refine xvalP (pv_move rfl) rfl rfl ?_
              refine xskip rfl rfl ?_
              refine xskip rfl rfl ?_
              refine xvalP (pv_pick rfl rfl) rfl rfl ?_
              refine xvalP (pv_move rfl) rfl rfl ?_
              refine xskip rfl rfl ?_
              refine xskip rfl rfl ?_
              refine xvalP (pv_pick rfl rfl) rfl rfl ?_
              refine xvalP (pv_move rfl) rfl rfl ?_
              refine xskip rfl rfl ?_
              refine xvalP (pv_pick rfl rfl) rfl rfl ?_
              refine xvalP (pv_assign rfl) rfl rfl ?_
              refine xnil ?_
              exact xmeet ⟨false, h, rfl⟩ ⟨(.cons rfl (.refl _) (.nil _)), (SubM.of (.nil _) (.nil _))⟩
          · clear h
            rintro _ ⟨x64, h, rfl⟩
            refine xretc ?_
            replace h := h.symm
            subst h
            exact xret1 hg rfl rfl (.refl _) (SubM.of (.nil _) (.nil _)) ⟨rfl, rfl, rfl⟩
end Go.Proofs.Ytgplmognfmjllaa
