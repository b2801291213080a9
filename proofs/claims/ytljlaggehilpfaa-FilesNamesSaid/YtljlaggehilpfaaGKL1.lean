/- What functions' texts ask for, and the walks that show it (printed by a program). -/
import Derived.Test.YtljlaggehilpfaaGK
namespace Go.Proofs.Ytljlaggehilpfaa
/-- palinodelaw03.FilesNames -/
def palinodelaw03_FilesNames_j3 (x77 : Bool) (r : Bool) : Prop :=
  r = x77
def palinodelaw03_FilesNames_j4 (x128 : Bool) (r : Bool) : Prop :=
  r = x128
def palinodelaw03_FilesNames_j2 (x1 : ByteArray) (x2 : List UInt8) (y42 : Bool) (x33 : (List (ByteArray × (List UInt8)))) (x44 : Int) (r : Bool) : Prop :=
  ∃ y47 : Int × (Option ((List (ByteArray × (List UInt8))))), files_New_R ([(x1, x2)]) y47 ∧ ((y47.2 = none → ∃ y79 : Bool, files_IsName_R x1 y79 ∧ (((y79 == y42) = true → ∃ y83 : Int × (List (ByteArray × (List UInt8))), files_Table_Add_R x33 x1 ([x2]) y83 ∧ ((y83.1 = x44 → ∃ y88 : Int × (List (ByteArray × (List UInt8))), files_Table_Put_R y83.2 x1 x2 y88 ∧ ((y88.1 = x44 → ((y47.1 = x44 → ∃ y95 : (List (ByteArray × (List UInt8))), files_Table_All_R y88.2 y95 ∧ ((((decide ((y95.length : Int) = 1)) == y42) = true → ∃ y102 : Bool, palinodelaw03_awake_R y102 ∧ palinodelaw03_FilesNames_j3 y102 r) ∧ (¬ (((decide ((y95.length : Int) = 1)) == y42) = true) → palinodelaw03_FilesNames_j3 false r))) ∧ (¬ (y47.1 = x44) → palinodelaw03_FilesNames_j3 false r))) ∧ (¬ (y88.1 = x44) → palinodelaw03_FilesNames_j3 false r))) ∧ (¬ (y83.1 = x44) → palinodelaw03_FilesNames_j3 false r))) ∧ (¬ ((y79 == y42) = true) → palinodelaw03_FilesNames_j3 false r))) ∧ (∀ x48 : (List (ByteArray × (List UInt8))), y47.2 = some x48 → ∃ y130 : Bool, files_IsName_R x1 y130 ∧ (((y130 == y42) = true → ∃ y134 : Int × (List (ByteArray × (List UInt8))), files_Table_Add_R x33 x1 ([x2]) y134 ∧ ((y134.1 = x44 → ∃ y139 : Int × (List (ByteArray × (List UInt8))), files_Table_Put_R y134.2 x1 x2 y139 ∧ ((y139.1 = x44 → ((y47.1 = x44 → ∃ y146 : (List (ByteArray × (List UInt8))), files_Table_All_R y139.2 y146 ∧ ((((decide ((y146.length : Int) = 1)) == y42) = true → ∃ y153 : Bool, palinodelaw03_awake_R y153 ∧ palinodelaw03_FilesNames_j4 y153 r) ∧ (¬ (((decide ((y146.length : Int) = 1)) == y42) = true) → palinodelaw03_FilesNames_j4 false r))) ∧ (¬ (y47.1 = x44) → palinodelaw03_FilesNames_j4 false r))) ∧ (¬ (y139.1 = x44) → palinodelaw03_FilesNames_j4 false r))) ∧ (¬ (y134.1 = x44) → palinodelaw03_FilesNames_j4 false r))) ∧ (¬ ((y130 == y42) = true) → palinodelaw03_FilesNames_j4 false r))))
def palinodelaw03_FilesNames_j1 (x1 : ByteArray) (x2 : List UInt8) (x22 : Bool) (r : Bool) : Prop :=
  ((x22 = true → ∃ y30 : Bool, palinodelaw03_awake_R y30 ∧ r = y30) ∧ (¬ (x22 = true) → ∃ y32 : Int × (Option ((List (ByteArray × (List UInt8))))), files_New_R ([] : List (ByteArray × (List UInt8))) y32 ∧ ((y32.2 = none → r = false) ∧ (∀ x33 : (List (ByteArray × (List UInt8))), y32.2 = some x33 → ∃ y42 : Bool, palinoderef03_IsName_R x1 y42 ∧ ((¬ (y42 = true) → palinodelaw03_FilesNames_j2 x1 x2 y42 x33 4 r) ∧ (¬ (¬ (y42 = true)) → palinodelaw03_FilesNames_j2 x1 x2 y42 x33 0 r))))))
def palinodelaw03_FilesNames_R (x1 : ByteArray) (x2 : List UInt8) (r : Bool) : Prop :=
  palinodelaw03_FilesNames_j1 x1 x2 ((decide (70 < (x1.size : Int))) || (decide (100 < (x2.length : Int)))) r
def palinodelaw03_FilesNames_j3_ev (fuel : Nat) (x77 : Bool) : Option (Bool) :=
  some x77
theorem palinodelaw03_FilesNames_j3_ok {fuel : Nat} {x77 : Bool} {r : Bool} (h : palinodelaw03_FilesNames_j3_ev fuel x77 = some r) : palinodelaw03_FilesNames_j3 x77 r := by
  unfold palinodelaw03_FilesNames_j3_ev at h
  unfold palinodelaw03_FilesNames_j3
  exact (Option.some.inj h).symm
def palinodelaw03_FilesNames_j4_ev (fuel : Nat) (x128 : Bool) : Option (Bool) :=
  some x128
theorem palinodelaw03_FilesNames_j4_ok {fuel : Nat} {x128 : Bool} {r : Bool} (h : palinodelaw03_FilesNames_j4_ev fuel x128 = some r) : palinodelaw03_FilesNames_j4 x128 r := by
  unfold palinodelaw03_FilesNames_j4_ev at h
  unfold palinodelaw03_FilesNames_j4
  exact (Option.some.inj h).symm
def palinodelaw03_FilesNames_j2_ev (fuel : Nat) (x1 : ByteArray) (x2 : List UInt8) (y42 : Bool) (x33 : (List (ByteArray × (List UInt8)))) (x44 : Int) : Option (Bool) :=
  ((files_New_ev fuel ([(x1, x2)])).bind fun y47 => (optE (y47.2) (((files_IsName_ev fuel x1).bind fun y79 => (if (y79 == y42) = true then ((files_Table_Add_ev fuel x33 x1 ([x2])).bind fun y83 => (if y83.1 = x44 then ((files_Table_Put_ev fuel y83.2 x1 x2).bind fun y88 => (if y88.1 = x44 then (if y47.1 = x44 then ((files_Table_All_ev fuel y88.2).bind fun y95 => (if ((decide ((y95.length : Int) = 1)) == y42) = true then ((palinodelaw03_awake_ev fuel).bind fun y102 => palinodelaw03_FilesNames_j3_ev fuel y102) else palinodelaw03_FilesNames_j3_ev fuel false)) else palinodelaw03_FilesNames_j3_ev fuel false) else palinodelaw03_FilesNames_j3_ev fuel false)) else palinodelaw03_FilesNames_j3_ev fuel false)) else palinodelaw03_FilesNames_j3_ev fuel false))) fun x48 => ((files_IsName_ev fuel x1).bind fun y130 => (if (y130 == y42) = true then ((files_Table_Add_ev fuel x33 x1 ([x2])).bind fun y134 => (if y134.1 = x44 then ((files_Table_Put_ev fuel y134.2 x1 x2).bind fun y139 => (if y139.1 = x44 then (if y47.1 = x44 then ((files_Table_All_ev fuel y139.2).bind fun y146 => (if ((decide ((y146.length : Int) = 1)) == y42) = true then ((palinodelaw03_awake_ev fuel).bind fun y153 => palinodelaw03_FilesNames_j4_ev fuel y153) else palinodelaw03_FilesNames_j4_ev fuel false)) else palinodelaw03_FilesNames_j4_ev fuel false) else palinodelaw03_FilesNames_j4_ev fuel false)) else palinodelaw03_FilesNames_j4_ev fuel false)) else palinodelaw03_FilesNames_j4_ev fuel false))))
theorem palinodelaw03_FilesNames_j2_ok {fuel : Nat} {x1 : ByteArray} {x2 : List UInt8} {y42 : Bool} {x33 : (List (ByteArray × (List UInt8)))} {x44 : Int} {r : Bool} (h : palinodelaw03_FilesNames_j2_ev fuel x1 x2 y42 x33 x44 = some r) : palinodelaw03_FilesNames_j2 x1 x2 y42 x33 x44 r := by
  unfold palinodelaw03_FilesNames_j2_ev at h
  unfold palinodelaw03_FilesNames_j2
  obtain ⟨q94, g94, h⟩ := bind_ok h
  refine ⟨q94, files_New_ok g94, ?_⟩
  refine ⟨fun g95 => ?_, fun q95 g95 => ?_⟩
  · rw [g95] at h
    simp only [optE] at h
    obtain ⟨q96, g96, h⟩ := bind_ok h
    refine ⟨q96, files_IsName_ok g96, ?_⟩
    refine ⟨fun g97 => ?_, fun g97 => ?_⟩
    · rw [if_pos g97] at h
      obtain ⟨q98, g98, h⟩ := bind_ok h
      refine ⟨q98, files_Table_Add_ok g98, ?_⟩
      refine ⟨fun g99 => ?_, fun g99 => ?_⟩
      · rw [if_pos g99] at h
        obtain ⟨q100, g100, h⟩ := bind_ok h
        refine ⟨q100, files_Table_Put_ok g100, ?_⟩
        refine ⟨fun g101 => ?_, fun g101 => ?_⟩
        · rw [if_pos g101] at h
          refine ⟨fun g102 => ?_, fun g102 => ?_⟩
          · rw [if_pos g102] at h
            obtain ⟨q103, g103, h⟩ := bind_ok h
            refine ⟨q103, files_Table_All_ok g103, ?_⟩
            refine ⟨fun g104 => ?_, fun g104 => ?_⟩
            · rw [if_pos g104] at h
              obtain ⟨q105, g105, h⟩ := bind_ok h
              refine ⟨q105, palinodelaw03_awake_ok g105, ?_⟩
              exact palinodelaw03_FilesNames_j3_ok h
            · rw [if_neg g104] at h
              exact palinodelaw03_FilesNames_j3_ok h
          · rw [if_neg g102] at h
            exact palinodelaw03_FilesNames_j3_ok h
        · rw [if_neg g101] at h
          exact palinodelaw03_FilesNames_j3_ok h
      · rw [if_neg g99] at h
        exact palinodelaw03_FilesNames_j3_ok h
    · rw [if_neg g97] at h
      exact palinodelaw03_FilesNames_j3_ok h
  · rw [g95] at h
    simp only [optE] at h
    obtain ⟨q106, g106, h⟩ := bind_ok h
    refine ⟨q106, files_IsName_ok g106, ?_⟩
    refine ⟨fun g107 => ?_, fun g107 => ?_⟩
    · rw [if_pos g107] at h
      obtain ⟨q108, g108, h⟩ := bind_ok h
      refine ⟨q108, files_Table_Add_ok g108, ?_⟩
      refine ⟨fun g109 => ?_, fun g109 => ?_⟩
      · rw [if_pos g109] at h
        obtain ⟨q110, g110, h⟩ := bind_ok h
        refine ⟨q110, files_Table_Put_ok g110, ?_⟩
        refine ⟨fun g111 => ?_, fun g111 => ?_⟩
        · rw [if_pos g111] at h
          refine ⟨fun g112 => ?_, fun g112 => ?_⟩
          · rw [if_pos g112] at h
            obtain ⟨q113, g113, h⟩ := bind_ok h
            refine ⟨q113, files_Table_All_ok g113, ?_⟩
            refine ⟨fun g114 => ?_, fun g114 => ?_⟩
            · rw [if_pos g114] at h
              obtain ⟨q115, g115, h⟩ := bind_ok h
              refine ⟨q115, palinodelaw03_awake_ok g115, ?_⟩
              exact palinodelaw03_FilesNames_j4_ok h
            · rw [if_neg g114] at h
              exact palinodelaw03_FilesNames_j4_ok h
          · rw [if_neg g112] at h
            exact palinodelaw03_FilesNames_j4_ok h
        · rw [if_neg g111] at h
          exact palinodelaw03_FilesNames_j4_ok h
      · rw [if_neg g109] at h
        exact palinodelaw03_FilesNames_j4_ok h
    · rw [if_neg g107] at h
      exact palinodelaw03_FilesNames_j4_ok h
def palinodelaw03_FilesNames_j1_ev (fuel : Nat) (x1 : ByteArray) (x2 : List UInt8) (x22 : Bool) : Option (Bool) :=
  (if x22 = true then ((palinodelaw03_awake_ev fuel).bind fun y30 => some y30) else ((files_New_ev fuel ([] : List (ByteArray × (List UInt8)))).bind fun y32 => (optE (y32.2) (some false) fun x33 => ((palinoderef03_IsName_ev fuel x1).bind fun y42 => (if ¬ (y42 = true) then palinodelaw03_FilesNames_j2_ev fuel x1 x2 y42 x33 4 else palinodelaw03_FilesNames_j2_ev fuel x1 x2 y42 x33 0)))))
theorem palinodelaw03_FilesNames_j1_ok {fuel : Nat} {x1 : ByteArray} {x2 : List UInt8} {x22 : Bool} {r : Bool} (h : palinodelaw03_FilesNames_j1_ev fuel x1 x2 x22 = some r) : palinodelaw03_FilesNames_j1 x1 x2 x22 r := by
  unfold palinodelaw03_FilesNames_j1_ev at h
  unfold palinodelaw03_FilesNames_j1
  refine ⟨fun g116 => ?_, fun g116 => ?_⟩
  · rw [if_pos g116] at h
    obtain ⟨q117, g117, h⟩ := bind_ok h
    refine ⟨q117, palinodelaw03_awake_ok g117, ?_⟩
    exact (Option.some.inj h).symm
  · rw [if_neg g116] at h
    obtain ⟨q118, g118, h⟩ := bind_ok h
    refine ⟨q118, files_New_ok g118, ?_⟩
    refine ⟨fun g119 => ?_, fun q119 g119 => ?_⟩
    · rw [g119] at h
      simp only [optE] at h
      exact (Option.some.inj h).symm
    · rw [g119] at h
      simp only [optE] at h
      obtain ⟨q120, g120, h⟩ := bind_ok h
      refine ⟨q120, palinoderef03_IsName_ok g120, ?_⟩
      refine ⟨fun g121 => ?_, fun g121 => ?_⟩
      · rw [if_pos g121] at h
        exact palinodelaw03_FilesNames_j2_ok h
      · rw [if_neg g121] at h
        exact palinodelaw03_FilesNames_j2_ok h
def palinodelaw03_FilesNames_ev (fuel : Nat) (x1 : ByteArray) (x2 : List UInt8) : Option (Bool) :=
  palinodelaw03_FilesNames_j1_ev fuel x1 x2 ((decide (70 < (x1.size : Int))) || (decide (100 < (x2.length : Int))))
theorem palinodelaw03_FilesNames_ok {fuel : Nat} {x1 : ByteArray} {x2 : List UInt8} {r : Bool} (h : palinodelaw03_FilesNames_ev fuel x1 x2 = some r) : palinodelaw03_FilesNames_R x1 x2 r := by
  unfold palinodelaw03_FilesNames_ev at h
  unfold palinodelaw03_FilesNames_R
  exact palinodelaw03_FilesNames_j1_ok h
set_option maxHeartbeats 4000000 in
theorem palinodelaw03_FilesNames_con (x1 : ByteArray) (x2 : List UInt8) (r : Bool) (h : palinodelaw03_FilesNames_R x1 x2 r) : Con Try.prog 3 [.v (.string x1), .sl 1 none (List.map eb x2)] [] [] (Ret (.v (.bool r))) := by
  refine xenter Try.func3 rfl rfl fun g hg => ?_
  simp only [Try.ntmps3, slots]
  unfold palinodelaw03_FilesNames_R at h
  refine xseq ?_
  refine xregion ?_
  refine xvalP (pv_assign rfl) rfl rfl ?_
  refine xnil ?_
  refine xthen ?_
  refine xseq ?_
  refine xseqM (fun σ => ∃ (x22 : Bool), palinodelaw03_FilesNames_j1 x1 x2 x22 r ∧ σ = ⟨[(0, .v (.string x1)), (1, .sl 1 none (List.map eb x2)), (18, .v (.bool x22))], [], []⟩) ?_ ?_
  · refine xregion ?_
    refine xvalP (pv_move rfl) rfl rfl ?_
    refine xvalP (pv_lenS UndC.h rfl) rfl rfl ?_
    refine xvalP (pv_bin2 rfl rfl rfl) rfl rfl ?_
    refine xvalP (pv_move rfl) rfl rfl ?_
    by_cases hp25 : 70 < (x1.size : Int)
    · rw [show (decide (70 < (x1.size : Int))) = true from (decide_eq_true hp25), Bool.true_or] at h
      refine xsetB 14 (decide_eq_true hp25) rfl ?_
      refine xskip rfl rfl ?_
      refine xskip rfl rfl ?_
      refine xskip rfl rfl ?_
      refine xvalP (pv_pick rfl rfl) rfl rfl ?_
      refine xnil ?_
      exact xmeet ⟨true, h, rfl⟩ ⟨(.cons rfl (.refl _) (.cons rfl (.refl _) (.cons rfl (.refl _) (.nil _)))), (SubM.of (.nil _) (.nil _))⟩
    · rw [show (decide (70 < (x1.size : Int))) = false from (decide_eq_false hp25), Bool.false_or] at h
      refine xsetB 14 (decide_eq_false hp25) rfl ?_
      refine xvalP (pv_move rfl) rfl rfl ?_
      refine xvalP (pv_lenM UndC.h rfl) rfl rfl ?_
      refine xvalP (pv_bin2 rfl rfl rfl) rfl rfl ?_
      refine xvalP (pv_pick rfl rfl) rfl rfl ?_
      refine xnil ?_
      exact xmeet ⟨(decide (100 < (x2.length : Int))), h, rfl⟩ ⟨(.cons rfl (.refl _) (.cons rfl (.refl _) (.cons rfl (.refl _) (.nil _)))), (SubM.of (.nil _) (.nil _))⟩
  · clear h
    rintro _ ⟨x22, h, rfl⟩
    by_cases hp28 : x22 = true
    · replace h := h.1 hp28
      refine xcondT' hp28 rfl ?_
      refine xseq ?_
      refine xregion ?_
      obtain ⟨y30, h29, h⟩ := h
      refine xcall0 (palinodelaw03_awake_con _ h29) Try.func7 (by kernel_rfl) rfl .nil rfl rfl ?_
      refine xvalP (pv_assign rfl) rfl rfl ?_
      refine xnil ?_
      refine xthen ?_
      refine xretc ?_
      refine xthen_ret ?_
      replace h := h.symm
      subst h
      exact xret1 hg rfl rfl (.refl _) (SubM.of (.nil _) (.nil _)) ⟨rfl, rfl, rfl⟩
    · replace h := h.2 hp28
      refine xcondF' (b_f hp28) rfl ?_
      refine xskipc ?_
      refine xthen ?_
      refine xseq ?_
      refine xregion ?_
      obtain ⟨y32, h31, h⟩ := h
      refine xcallF (Fb := []) (Ft := []) (files_New_con ([] : List (ByteArray × (List UInt8))) _ h31) Try.func8 (by kernel_rfl) rfl (.cons rfl (.nil_pl _) .nil) (by exact (SubM.of (by repeat (first | with_reducible exact SubB.refl _ | exact SubB.nil _ | refine SubB.keep rfl rfl (by first | with_reducible exact WkL.refl _ | ((repeat (first | exact WkL.nil | refine WkL.cons (by first | with_reducible exact Wk.refl _ | exact Wk.nil_own _ | exact Wk.nil_pl _ | with_reducible exact Wk.tok _ _ _ | exact Wk.tok _ _ _ | exact Wk.eq (by first | rfl | (simp []; done) | (simp []; omega))) ?_)); done) | exact WkL.refl _) ?_ | refine SubB.drop ?_)) (by repeat (first | exact SubT.nil _ | refine SubT.add ?_ | (refine SubT.keep ?_ ?_; focus (first | with_reducible rfl | (simp []; done))) | refine SubT.drop ?_)))) rfl rfl ?_
      intro rr31 bb31 tt31 hr31
      rcases ho31 : y32.2 with _ | x33
      · have hq31 := hr31.1 ho31
        replace h := h.1 ho31
        obtain ⟨rfl, rfl, rfl⟩ := hq31
        simp only [List.nil_append, List.cons_append]
        refine xvalP (pv_move rfl) rfl rfl ?_
        refine xvalP (pv_extract rfl rfl) rfl rfl ?_
        refine xvalP (pv_extract rfl rfl) rfl rfl ?_
        refine xvalP (pv_assign rfl) rfl rfl ?_
        refine xvalP (pv_assign rfl) rfl rfl ?_
        refine xnil ?_
        refine xthen ?_
        refine xseq ?_
        refine xseq ?_
        refine xregion ?_
        refine xvalP (pv_move rfl) rfl rfl ?_
        refine xvalP (pv_eqNilN UndC.h rfl rfl) rfl rfl ?_
        refine xnil ?_
        refine xthen ?_
        refine xcondT rfl ?_
        refine xseq ?_
        refine xregion ?_
        refine xvalP (pv_assign rfl) rfl rfl ?_
        refine xnil ?_
        refine xthen ?_
        refine xretc ?_
        refine xthen_ret ?_
        replace h := h.symm
        subst h
        exact xret1 hg rfl rfl (.refl _) (SubM.of (.nil _) (.nil _)) ⟨rfl, rfl, rfl⟩
      · have hq31 := hr31.2 x33 ho31
        replace h := h.2 x33 ho31
        obtain ⟨b36, i34, rfl, rfl, rfl⟩ := hq31
        simp only [List.nil_append, List.cons_append]
        refine xvalP (pv_move rfl) rfl rfl ?_
        refine xvalP (pv_extract rfl rfl) rfl rfl ?_
        refine xvalP (pv_extract rfl rfl) rfl rfl ?_
        refine xvalP (pv_assign rfl) rfl rfl ?_
        refine xvalP (pv_assign rfl) rfl rfl ?_
        refine xnil ?_
        refine xthen ?_
        refine xseq ?_
        refine xseq ?_
        refine xregion ?_
        refine xvalP (pv_move rfl) rfl rfl ?_
        refine xvalP (pv_eqNil UndC.h rfl rfl) rfl rfl ?_
        refine xnil ?_
        refine xthen ?_
        refine xcondF rfl ?_
        refine xskipc ?_
        refine xthen ?_
        refine xseq ?_
        refine xregion ?_
        refine xvalP (pv_move rfl) rfl rfl ?_
        obtain ⟨y42, h41, h⟩ := h
        refine xcall0 (palinoderef03_IsName_con x1 _ h41) Try.func9 (by kernel_rfl) rfl (.cons rfl (.refl _) .nil) rfl rfl ?_
        refine xvalP (pv_assign rfl) rfl rfl ?_
        refine xnil ?_
        refine xthen ?_
        refine xseq ?_
        refine xregion ?_
        refine xvalP (pv_assign rfl) rfl rfl ?_
        refine xnil ?_
        refine xthen ?_
        refine xseqM (fun σ => ∃ (x44 : Int), palinodelaw03_FilesNames_j2 x1 x2 y42 x33 x44 r ∧ σ = ⟨[(0, .v (.string x1)), (1, .sl 1 none (List.map eb x2)), (5, .v (.pointer (some ⟨b36, 0, none⟩))), (7, .v (.bool y42)), (8, .v (.int .i64 x44))], [rbx i34 30 2 (List.map E_palinode_api_File x33), ⟨b36, 60, [.rb i34 x33.length]⟩], []⟩) ?_ ?_
        · refine xseq ?_
          refine xregion ?_
          refine xvalP (pv_move rfl) rfl rfl ?_
          refine xvalP (pv_not rfl) rfl rfl ?_
          refine xnil ?_
          refine xthen ?_
          by_cases hp45 : ¬ (y42 = true)
          · replace h := h.1 hp45
            refine xcondT' (not_t (b_f hp45)) rfl ?_
            refine xregion ?_
            refine xvalP (pv_assign rfl) rfl rfl ?_
            refine xnil ?_
            exact xmeet ⟨4, h, rfl⟩ ⟨(.cons rfl (.refl _) (.cons rfl (.refl _) (.cons rfl (.refl _) (.cons rfl (.refl _) (.cons rfl (.refl _) (.nil _)))))), by exact (SubM.of (.keep rfl rfl (.refl _) (.keep rfl rfl (.cons (.eq (by first | rfl | simp)) .nil) (.nil _))) (.nil _))⟩
          · replace h := h.2 hp45
            refine xcondF' (not_f (Decidable.of_not_not hp45)) rfl ?_
            refine xskipc ?_
            exact xmeet ⟨0, h, rfl⟩ ⟨(.cons rfl (.refl _) (.cons rfl (.refl _) (.cons rfl (.refl _) (.cons rfl (.refl _) (.cons rfl (.refl _) (.nil _)))))), by exact (SubM.of (.keep rfl rfl (.refl _) (.keep rfl rfl (.cons (.eq (by first | rfl | simp)) .nil) (.nil _))) (.nil _))⟩
        · clear h
          rintro _ ⟨x44, h, rfl⟩
          refine xseq ?_
          refine xregion ?_
          refine xvalP (pv_move rfl) rfl rfl ?_
          refine xvalP (pv_move rfl) rfl rfl ?_
          refine xvalP (pv_buildC StrC.h rfl rfl) rfl rfl ?_
          refine xbuildSliceM (f := E_palinode_api_File) [(x1, x2)] UndC.h InfC.h rfl rfl (by first | exact wkR_of rfl | (repeat (first | exact WkR.nil | refine WkR.cons (by (repeat (first | exact WkL.nil | refine WkL.cons (by first | with_reducible exact Wk.refl _ | exact Wk.nil_own _ | exact Wk.nil_pl _ | with_reducible exact Wk.tok _ _ _ | exact Wk.tok _ _ _ | exact Wk.eq (by first | rfl | (simp []; done) | (simp []; omega))) ?_))) ?_))) rfl rfl rfl rfl fun s34 => ?_
          obtain ⟨y47, h46, h⟩ := h
          refine xcallF (Fb := [rbx i34 30 2 (List.map E_palinode_api_File x33), ⟨b36, 60, [.rb i34 x33.length]⟩]) (Ft := [⟨(some (s34, 1)), 30, 2, ([(x1, x2)]).length⟩]) (files_New_con ([(x1, x2)]) _ h46) Try.func8 (by kernel_rfl) rfl (.cons rfl (.tok _ _ _) .nil) (by exact (SubM.of (by repeat (first | with_reducible exact SubB.refl _ | exact SubB.nil _ | refine SubB.keep rfl rfl (by first | with_reducible exact WkL.refl _ | ((repeat (first | exact WkL.nil | refine WkL.cons (by first | with_reducible exact Wk.refl _ | exact Wk.nil_own _ | exact Wk.nil_pl _ | with_reducible exact Wk.tok _ _ _ | exact Wk.tok _ _ _ | exact Wk.eq (by first | rfl | (simp []; done) | (simp []; omega))) ?_)); done) | exact WkL.refl _) ?_ | refine SubB.drop ?_)) (by repeat (first | exact SubT.nil _ | refine SubT.add ?_ | (refine SubT.keep ?_ ?_; focus (first | with_reducible rfl | (simp []; done))) | refine SubT.drop ?_)))) rfl rfl ?_
          intro rr46 bb46 tt46 hr46
          rcases ho46 : y47.2 with _ | x48
          · have hq46 := hr46.1 ho46
            replace h := h.1 ho46
            obtain ⟨rfl, rfl, rfl⟩ := hq46
            simp only [List.nil_append, List.cons_append]
            refine xvalP (pv_move rfl) rfl rfl ?_
            refine xvalP (pv_extract rfl rfl) rfl rfl ?_
            refine xvalP (pv_extract rfl rfl) rfl rfl ?_
            refine xvalP (pv_assign rfl) rfl rfl ?_
            refine xvalP (pv_assign rfl) rfl rfl ?_
            refine xnil ?_
            refine xthen ?_
            refine xseqM (fun σ => ∃ (x77 : Bool), palinodelaw03_FilesNames_j3 x77 r ∧ σ = ⟨[(4, .v (.bool x77))], [], []⟩) ?_ ?_
            · refine xregion ?_
              refine xvalP (pv_move rfl) rfl rfl ?_
              obtain ⟨y79, h78, h⟩ := h
              refine xcall0 (files_IsName_con x1 _ h78) Try.func10 (by kernel_rfl) rfl (.cons rfl (.refl _) .nil) rfl rfl ?_
              refine xvalP (pv_move rfl) rfl rfl ?_
              refine xvalP (pv_eqB UndC.h rfl rfl) rfl rfl ?_
              refine xvalP (pv_move rfl) rfl rfl ?_
              by_cases hp81 : (y79 == y42) = true
              · replace h := h.1 hp81
                refine xsetB 42 hp81 rfl ?_
                refine xvalP (pv_move rfl) rfl rfl ?_
                refine xvalP (pv_move rfl) rfl rfl ?_
                refine xvalP (pv_move rfl) rfl rfl ?_
                refine xbuildSliceM (f := E_uint8) [x2] UndC.h InfC.h rfl rfl (by first | exact wkR_of rfl | (repeat (first | exact WkR.nil | refine WkR.cons (by (repeat (first | exact WkL.nil | refine WkL.cons (by first | with_reducible exact Wk.refl _ | exact Wk.nil_own _ | exact Wk.nil_pl _ | with_reducible exact Wk.tok _ _ _ | exact Wk.tok _ _ _ | exact Wk.eq (by first | rfl | (simp []; done) | (simp []; omega))) ?_))) ?_))) rfl rfl rfl rfl fun s46 => ?_
                obtain ⟨y83, h82, h⟩ := h
                refine xcallF (Fb := []) (Ft := [⟨(some (s46, 1)), 22, 1, ([x2]).length⟩, ⟨(some (s34, 1)), 30, 2, ([(x1, x2)]).length⟩]) (files_Table_Add_con x33 x1 ([x2]) b36 i34 _ h82) Try.func11 (by kernel_rfl) rfl (.cons rfl (.refl _) (.cons rfl (.refl _) (.cons rfl (.tok _ _ _) .nil))) (by refine SubM.trans (SubM.mvB 0 rfl) ?_; refine SubM.trans (SubM.mvB 1 rfl) ?_; (simp only [List.eraseIdx]); exact (SubM.of (by repeat (first | with_reducible exact SubB.refl _ | exact SubB.nil _ | refine SubB.keep rfl rfl (by first | with_reducible exact WkL.refl _ | ((repeat (first | exact WkL.nil | refine WkL.cons (by first | with_reducible exact Wk.refl _ | exact Wk.nil_own _ | exact Wk.nil_pl _ | with_reducible exact Wk.tok _ _ _ | exact Wk.tok _ _ _ | exact Wk.eq (by first | rfl | (simp []; done) | (simp []; omega))) ?_)); done) | exact WkL.refl _) ?_ | refine SubB.drop ?_)) (by repeat (first | exact SubT.nil _ | refine SubT.add ?_ | (refine SubT.keep ?_ ?_; focus (first | with_reducible rfl | (simp []; done))) | refine SubT.drop ?_)))) rfl rfl ?_
                rintro _ _ _ ⟨i84, rfl, rfl, rfl⟩
                simp only [List.nil_append, List.cons_append]
                refine xvalP (pv_move rfl) rfl rfl ?_
                refine xvalP (pv_bin2 rfl rfl rfl) rfl rfl ?_
                refine xvalP (pv_pick rfl rfl) rfl rfl ?_
                refine xvalP (pv_move rfl) rfl rfl ?_
                by_cases hp86 : y83.1 = x44
                · replace h := h.1 hp86
                  refine xsetB 51 (decide_eq_true hp86) rfl ?_
                  refine xvalP (pv_move rfl) rfl rfl ?_
                  refine xvalP (pv_move rfl) rfl rfl ?_
                  refine xvalP (pv_move rfl) rfl rfl ?_
                  obtain ⟨y88, h87, h⟩ := h
                  refine xcallF (Fb := []) (Ft := [⟨(some (s46, 1)), 22, 1, ([x2]).length⟩, ⟨(some (s34, 1)), 30, 2, ([(x1, x2)]).length⟩]) (files_Table_Put_con y83.2 x1 x2 b36 i84 _ h87) Try.func12 (by kernel_rfl) rfl (.cons rfl (.refl _) (.cons rfl (.refl _) (.cons rfl (.refl _) .nil))) (by refine SubM.trans (SubM.mvB 0 rfl) ?_; refine SubM.trans (SubM.mvB 1 rfl) ?_; (simp only [List.eraseIdx]); exact (SubM.of (by repeat (first | with_reducible exact SubB.refl _ | exact SubB.nil _ | refine SubB.keep rfl rfl (by first | with_reducible exact WkL.refl _ | ((repeat (first | exact WkL.nil | refine WkL.cons (by first | with_reducible exact Wk.refl _ | exact Wk.nil_own _ | exact Wk.nil_pl _ | with_reducible exact Wk.tok _ _ _ | exact Wk.tok _ _ _ | exact Wk.eq (by first | rfl | (simp []; done) | (simp []; omega))) ?_)); done) | exact WkL.refl _) ?_ | refine SubB.drop ?_)) (by repeat (first | exact SubT.nil _ | refine SubT.add ?_ | (refine SubT.keep ?_ ?_; focus (first | with_reducible rfl | (simp []; done))) | refine SubT.drop ?_)))) rfl rfl ?_
                  rintro _ _ _ ⟨i89, rfl, rfl, rfl⟩
                  simp only [List.nil_append, List.cons_append]
                  refine xvalP (pv_move rfl) rfl rfl ?_
                  refine xvalP (pv_bin2 rfl rfl rfl) rfl rfl ?_
                  refine xvalP (pv_pick rfl rfl) rfl rfl ?_
                  refine xvalP (pv_move rfl) rfl rfl ?_
                  by_cases hp91 : y88.1 = x44
                  · replace h := h.1 hp91
                    refine xsetB 59 (decide_eq_true hp91) rfl ?_
                    refine xvalP (pv_move rfl) rfl rfl ?_
                    refine xvalP (pv_move rfl) rfl rfl ?_
                    refine xvalP (pv_bin2 rfl rfl rfl) rfl rfl ?_
                    refine xvalP (pv_pick rfl rfl) rfl rfl ?_
                    refine xvalP (pv_move rfl) rfl rfl ?_
                    by_cases hp93 : y47.1 = x44
                    · replace h := h.1 hp93
                      refine xsetB 64 (decide_eq_true hp93) rfl ?_
                      refine xvalP (pv_move rfl) rfl rfl ?_
                      obtain ⟨y95, h94, h⟩ := h
                      refine xcallF (Fb := []) (Ft := [⟨(some (s46, 1)), 22, 1, ([x2]).length⟩, ⟨(some (s34, 1)), 30, 2, ([(x1, x2)]).length⟩]) (files_Table_All_con y88.2 b36 i89 _ h94) Try.func13 (by kernel_rfl) rfl (.cons rfl (.refl _) .nil) (by refine SubM.trans (SubM.mvB 0 rfl) ?_; refine SubM.trans (SubM.mvB 1 rfl) ?_; (simp only [List.eraseIdx]); exact (SubM.of (by repeat (first | with_reducible exact SubB.refl _ | exact SubB.nil _ | refine SubB.keep rfl rfl (by first | with_reducible exact WkL.refl _ | ((repeat (first | exact WkL.nil | refine WkL.cons (by first | with_reducible exact Wk.refl _ | exact Wk.nil_own _ | exact Wk.nil_pl _ | with_reducible exact Wk.tok _ _ _ | exact Wk.tok _ _ _ | exact Wk.eq (by first | rfl | (simp []; done) | (simp []; omega))) ?_)); done) | exact WkL.refl _) ?_ | refine SubB.drop ?_)) (by repeat (first | exact SubT.nil _ | refine SubT.add ?_ | (refine SubT.keep ?_ ?_; focus (first | with_reducible rfl | (simp []; done))) | refine SubT.drop ?_)))) rfl rfl ?_
                      rintro _ _ _ ⟨i96, rfl, rfl, rfl⟩
                      simp only [List.nil_append, List.cons_append]
                      refine xvalP (pv_lenM UndC.h rfl) rfl rfl ?_
                      refine xvalP (pv_bin2 rfl rfl rfl) rfl rfl ?_
                      refine xvalP (pv_move rfl) rfl rfl ?_
                      refine xvalP (pv_eqB UndC.h rfl rfl) rfl rfl ?_
                      refine xvalP (pv_pick rfl rfl) rfl rfl ?_
                      refine xvalP (pv_move rfl) rfl rfl ?_
                      by_cases hp100 : ((decide ((y95.length : Int) = 1)) == y42) = true
                      · replace h := h.1 hp100
                        refine xsetB 72 hp100 rfl ?_
                        obtain ⟨y102, h101, h⟩ := h
                        refine xcall0 (palinodelaw03_awake_con _ h101) Try.func7 (by kernel_rfl) rfl .nil rfl rfl ?_
                        refine xvalP (pv_pick rfl rfl) rfl rfl ?_
                        refine xvalP (pv_assign rfl) rfl rfl ?_
                        refine xnil ?_
                        exact xmeet ⟨y102, h, rfl⟩ ⟨(.cons rfl (.refl _) (.nil _)), (SubM.of (.nil _) (.nil _))⟩
                      · replace h := h.2 hp100
                        refine xsetB 72 (b_f hp100) rfl ?_
                        refine xskip rfl rfl ?_
                        refine xvalP (pv_pick rfl rfl) rfl rfl ?_
                        refine xvalP (pv_assign rfl) rfl rfl ?_
                        refine xnil ?_
                        exact xmeet ⟨false, h, rfl⟩ ⟨(.cons rfl (.refl _) (.nil _)), (SubM.of (.nil _) (.nil _))⟩
                    · replace h := h.2 hp93
                      refine xsetB 64 (decide_eq_false hp93) rfl ?_
                      refine xskip rfl rfl ?_
                      refine xskip rfl rfl ?_
                      refine xskip rfl rfl ?_
                      refine xskip rfl rfl ?_
                      refine xskip rfl rfl ?_
                      refine xskip rfl rfl ?_
                      refine xvalP (pv_pick rfl rfl) rfl rfl ?_
                      refine xvalP (pv_move rfl) rfl rfl ?_
                      refine xskip rfl rfl ?_
                      refine xvalP (pv_pick rfl rfl) rfl rfl ?_
                      refine xvalP (pv_assign rfl) rfl rfl ?_
                      refine xnil ?_
                      exact xmeet ⟨false, h, rfl⟩ ⟨(.cons rfl (.refl _) (.nil _)), (SubM.of (.nil _) (.nil _))⟩
                  · replace h := h.2 hp91
                    refine xsetB 59 (decide_eq_false hp91) rfl ?_
                    refine xskip rfl rfl ?_
                    refine xskip rfl rfl ?_
                    refine xskip rfl rfl ?_
                    refine xvalP (pv_pick rfl rfl) rfl rfl ?_
                    refine xvalP (pv_move rfl) rfl rfl ?_
                    refine xskip rfl rfl ?_
                    refine xskip rfl rfl ?_
                    refine xskip rfl rfl ?_
                    refine xskip rfl rfl ?_
                    refine xskip rfl rfl ?_
                    refine xskip rfl rfl ?_
                    refine xvalP (pv_pick rfl rfl) rfl rfl ?_
                    refine xvalP (pv_move rfl) rfl rfl ?_
                    refine xskip rfl rfl ?_
                    refine xvalP (pv_pick rfl rfl) rfl rfl ?_
                    refine xvalP (pv_assign rfl) rfl rfl ?_
                    refine xnil ?_
                    exact xmeet ⟨false, h, rfl⟩ ⟨(.cons rfl (.refl _) (.nil _)), (SubM.of (.nil _) (.nil _))⟩
                · replace h := h.2 hp86
                  refine xsetB 51 (decide_eq_false hp86) rfl ?_
                  refine xskip rfl rfl ?_
                  refine xskip rfl rfl ?_
                  refine xskip rfl rfl ?_
                  refine xskip rfl rfl ?_
                  refine xskip rfl rfl ?_
                  refine xskip rfl rfl ?_
                  refine xvalP (pv_pick rfl rfl) rfl rfl ?_
                  refine xvalP (pv_move rfl) rfl rfl ?_
                  refine xskip rfl rfl ?_
                  refine xskip rfl rfl ?_
                  refine xskip rfl rfl ?_
                  refine xvalP (pv_pick rfl rfl) rfl rfl ?_
                  refine xvalP (pv_move rfl) rfl rfl ?_
                  refine xskip rfl rfl ?_
                  refine xskip rfl rfl ?_
                  refine xskip rfl rfl ?_
                  refine xskip rfl rfl ?_
                  refine xskip rfl rfl ?_
                  refine xskip rfl rfl ?_
                  refine xvalP (pv_pick rfl rfl) rfl rfl ?_
                  refine xvalP (pv_move rfl) rfl rfl ?_
                  refine xskip rfl rfl ?_
                  refine xvalP (pv_pick rfl rfl) rfl rfl ?_
                  refine xvalP (pv_assign rfl) rfl rfl ?_
                  refine xnil ?_
                  exact xmeet ⟨false, h, rfl⟩ ⟨(.cons rfl (.refl _) (.nil _)), (SubM.of (.nil _) (.nil _))⟩
              · replace h := h.2 hp81
                refine xsetB 42 (b_f hp81) rfl ?_
                refine xskip rfl rfl ?_
                refine xskip rfl rfl ?_
                refine xskip rfl rfl ?_
                refine xskip rfl rfl ?_
                refine xskip rfl rfl ?_
                refine xskip rfl rfl ?_
                refine xskip rfl rfl ?_
                refine xvalP (pv_pick rfl rfl) rfl rfl ?_
                refine xvalP (pv_move rfl) rfl rfl ?_
                refine xskip rfl rfl ?_
                refine xskip rfl rfl ?_
                refine xskip rfl rfl ?_
                refine xskip rfl rfl ?_
                refine xskip rfl rfl ?_
                refine xskip rfl rfl ?_
                refine xvalP (pv_pick rfl rfl) rfl rfl ?_
                refine xvalP (pv_move rfl) rfl rfl ?_
                refine xskip rfl rfl ?_
                refine xskip rfl rfl ?_
                refine xskip rfl rfl ?_
                refine xvalP (pv_pick rfl rfl) rfl rfl ?_
                refine xvalP (pv_move rfl) rfl rfl ?_
                refine xskip rfl rfl ?_
                refine xskip rfl rfl ?_
                refine xskip rfl rfl ?_
                refine xskip rfl rfl ?_
                refine xskip rfl rfl ?_
                refine xskip rfl rfl ?_
                refine xvalP (pv_pick rfl rfl) rfl rfl ?_
                refine xvalP (pv_move rfl) rfl rfl ?_
                refine xskip rfl rfl ?_
                refine xvalP (pv_pick rfl rfl) rfl rfl ?_
                refine xvalP (pv_assign rfl) rfl rfl ?_
                refine xnil ?_
                exact xmeet ⟨false, h, rfl⟩ ⟨(.cons rfl (.refl _) (.nil _)), (SubM.of (.nil _) (.nil _))⟩
            · clear h
              rintro _ ⟨x77, h, rfl⟩
              refine xretc ?_
              replace h := h.symm
              subst h
              exact xret1 hg rfl rfl (.refl _) (SubM.of (.nil _) (.nil _)) ⟨rfl, rfl, rfl⟩
          · have hq46 := hr46.2 x48 ho46
            replace h := h.2 x48 ho46
            obtain ⟨b51, i49, rfl, rfl, rfl⟩ := hq46
            simp only [List.nil_append, List.cons_append]
            refine xvalP (pv_move rfl) rfl rfl ?_
            refine xvalP (pv_extract rfl rfl) rfl rfl ?_
            refine xvalP (pv_extract rfl rfl) rfl rfl ?_
            refine xvalP (pv_assign rfl) rfl rfl ?_
            refine xvalP (pv_assign rfl) rfl rfl ?_
            refine xnil ?_
            refine xthen ?_
            refine xseqM (fun σ => ∃ (x128 : Bool), palinodelaw03_FilesNames_j4 x128 r ∧ σ = ⟨[(4, .v (.bool x128))], [], []⟩) ?_ ?_
            · refine xregion ?_
              refine xvalP (pv_move rfl) rfl rfl ?_
              obtain ⟨y130, h129, h⟩ := h
              refine xcall0 (files_IsName_con x1 _ h129) Try.func10 (by kernel_rfl) rfl (.cons rfl (.refl _) .nil) rfl rfl ?_
              refine xvalP (pv_move rfl) rfl rfl ?_
              refine xvalP (pv_eqB UndC.h rfl rfl) rfl rfl ?_
              refine xvalP (pv_move rfl) rfl rfl ?_
              by_cases hp132 : (y130 == y42) = true
              · replace h := h.1 hp132
                refine xsetB 42 hp132 rfl ?_
                refine xvalP (pv_move rfl) rfl rfl ?_
                refine xvalP (pv_move rfl) rfl rfl ?_
                refine xvalP (pv_move rfl) rfl rfl ?_
                refine xbuildSliceM (f := E_uint8) [x2] UndC.h InfC.h rfl rfl (by first | exact wkR_of rfl | (repeat (first | exact WkR.nil | refine WkR.cons (by (repeat (first | exact WkL.nil | refine WkL.cons (by first | with_reducible exact Wk.refl _ | exact Wk.nil_own _ | exact Wk.nil_pl _ | with_reducible exact Wk.tok _ _ _ | exact Wk.tok _ _ _ | exact Wk.eq (by first | rfl | (simp []; done) | (simp []; omega))) ?_))) ?_))) rfl rfl rfl rfl fun s46 => ?_
                obtain ⟨y134, h133, h⟩ := h
                refine xcallF (Fb := [rbx i49 30 2 (List.map E_palinode_api_File x48), ⟨b51, 60, [.rb i49 x48.length]⟩]) (Ft := [⟨(some (s46, 1)), 22, 1, ([x2]).length⟩, ⟨(some (s34, 1)), 30, 2, ([(x1, x2)]).length⟩]) (files_Table_Add_con x33 x1 ([x2]) b36 i34 _ h133) Try.func11 (by kernel_rfl) rfl (.cons rfl (.refl _) (.cons rfl (.refl _) (.cons rfl (.tok _ _ _) .nil))) (by refine SubM.trans (SubM.mvB 2 rfl) ?_; refine SubM.trans (SubM.mvB 3 rfl) ?_; (simp only [List.eraseIdx]); exact (SubM.of (by repeat (first | with_reducible exact SubB.refl _ | exact SubB.nil _ | refine SubB.keep rfl rfl (by first | with_reducible exact WkL.refl _ | ((repeat (first | exact WkL.nil | refine WkL.cons (by first | with_reducible exact Wk.refl _ | exact Wk.nil_own _ | exact Wk.nil_pl _ | with_reducible exact Wk.tok _ _ _ | exact Wk.tok _ _ _ | exact Wk.eq (by first | rfl | (simp []; done) | (simp []; omega))) ?_)); done) | exact WkL.refl _) ?_ | refine SubB.drop ?_)) (by repeat (first | exact SubT.nil _ | refine SubT.add ?_ | (refine SubT.keep ?_ ?_; focus (first | with_reducible rfl | (simp []; done))) | refine SubT.drop ?_)))) rfl rfl ?_
                rintro _ _ _ ⟨i135, rfl, rfl, rfl⟩
                simp only [List.nil_append, List.cons_append]
                refine xvalP (pv_move rfl) rfl rfl ?_
                refine xvalP (pv_bin2 rfl rfl rfl) rfl rfl ?_
                refine xvalP (pv_pick rfl rfl) rfl rfl ?_
                refine xvalP (pv_move rfl) rfl rfl ?_
                by_cases hp137 : y134.1 = x44
                · replace h := h.1 hp137
                  refine xsetB 51 (decide_eq_true hp137) rfl ?_
                  refine xvalP (pv_move rfl) rfl rfl ?_
                  refine xvalP (pv_move rfl) rfl rfl ?_
                  refine xvalP (pv_move rfl) rfl rfl ?_
                  obtain ⟨y139, h138, h⟩ := h
                  refine xcallF (Fb := [rbx i49 30 2 (List.map E_palinode_api_File x48), ⟨b51, 60, [.rb i49 x48.length]⟩]) (Ft := [⟨(some (s46, 1)), 22, 1, ([x2]).length⟩, ⟨(some (s34, 1)), 30, 2, ([(x1, x2)]).length⟩]) (files_Table_Put_con y134.2 x1 x2 b36 i135 _ h138) Try.func12 (by kernel_rfl) rfl (.cons rfl (.refl _) (.cons rfl (.refl _) (.cons rfl (.refl _) .nil))) (by refine SubM.trans (SubM.mvB 0 rfl) ?_; refine SubM.trans (SubM.mvB 1 rfl) ?_; (simp only [List.eraseIdx]); exact (SubM.of (by repeat (first | with_reducible exact SubB.refl _ | exact SubB.nil _ | refine SubB.keep rfl rfl (by first | with_reducible exact WkL.refl _ | ((repeat (first | exact WkL.nil | refine WkL.cons (by first | with_reducible exact Wk.refl _ | exact Wk.nil_own _ | exact Wk.nil_pl _ | with_reducible exact Wk.tok _ _ _ | exact Wk.tok _ _ _ | exact Wk.eq (by first | rfl | (simp []; done) | (simp []; omega))) ?_)); done) | exact WkL.refl _) ?_ | refine SubB.drop ?_)) (by repeat (first | exact SubT.nil _ | refine SubT.add ?_ | (refine SubT.keep ?_ ?_; focus (first | with_reducible rfl | (simp []; done))) | refine SubT.drop ?_)))) rfl rfl ?_
                  rintro _ _ _ ⟨i140, rfl, rfl, rfl⟩
                  simp only [List.nil_append, List.cons_append]
                  refine xvalP (pv_move rfl) rfl rfl ?_
                  refine xvalP (pv_bin2 rfl rfl rfl) rfl rfl ?_
                  refine xvalP (pv_pick rfl rfl) rfl rfl ?_
                  refine xvalP (pv_move rfl) rfl rfl ?_
                  by_cases hp142 : y139.1 = x44
                  · replace h := h.1 hp142
                    refine xsetB 59 (decide_eq_true hp142) rfl ?_
                    refine xvalP (pv_move rfl) rfl rfl ?_
                    refine xvalP (pv_move rfl) rfl rfl ?_
                    refine xvalP (pv_bin2 rfl rfl rfl) rfl rfl ?_
                    refine xvalP (pv_pick rfl rfl) rfl rfl ?_
                    refine xvalP (pv_move rfl) rfl rfl ?_
                    by_cases hp144 : y47.1 = x44
                    · replace h := h.1 hp144
                      refine xsetB 64 (decide_eq_true hp144) rfl ?_
                      refine xvalP (pv_move rfl) rfl rfl ?_
                      obtain ⟨y146, h145, h⟩ := h
                      refine xcallF (Fb := [rbx i49 30 2 (List.map E_palinode_api_File x48), ⟨b51, 60, [.rb i49 x48.length]⟩]) (Ft := [⟨(some (s46, 1)), 22, 1, ([x2]).length⟩, ⟨(some (s34, 1)), 30, 2, ([(x1, x2)]).length⟩]) (files_Table_All_con y139.2 b36 i140 _ h145) Try.func13 (by kernel_rfl) rfl (.cons rfl (.refl _) .nil) (by refine SubM.trans (SubM.mvB 0 rfl) ?_; refine SubM.trans (SubM.mvB 1 rfl) ?_; (simp only [List.eraseIdx]); exact (SubM.of (by repeat (first | with_reducible exact SubB.refl _ | exact SubB.nil _ | refine SubB.keep rfl rfl (by first | with_reducible exact WkL.refl _ | ((repeat (first | exact WkL.nil | refine WkL.cons (by first | with_reducible exact Wk.refl _ | exact Wk.nil_own _ | exact Wk.nil_pl _ | with_reducible exact Wk.tok _ _ _ | exact Wk.tok _ _ _ | exact Wk.eq (by first | rfl | (simp []; done) | (simp []; omega))) ?_)); done) | exact WkL.refl _) ?_ | refine SubB.drop ?_)) (by repeat (first | exact SubT.nil _ | refine SubT.add ?_ | (refine SubT.keep ?_ ?_; focus (first | with_reducible rfl | (simp []; done))) | refine SubT.drop ?_)))) rfl rfl ?_
                      rintro _ _ _ ⟨i147, rfl, rfl, rfl⟩
                      simp only [List.nil_append, List.cons_append]
                      refine xvalP (pv_lenM UndC.h rfl) rfl rfl ?_
                      refine xvalP (pv_bin2 rfl rfl rfl) rfl rfl ?_
                      refine xvalP (pv_move rfl) rfl rfl ?_
                      refine xvalP (pv_eqB UndC.h rfl rfl) rfl rfl ?_
                      refine xvalP (pv_pick rfl rfl) rfl rfl ?_
                      refine xvalP (pv_move rfl) rfl rfl ?_
                      by_cases hp151 : ((decide ((y146.length : Int) = 1)) == y42) = true
                      · replace h := h.1 hp151
                        refine xsetB 72 hp151 rfl ?_
                        obtain ⟨y153, h152, h⟩ := h
                        refine xcall0 (palinodelaw03_awake_con _ h152) Try.func7 (by kernel_rfl) rfl .nil rfl rfl ?_
                        refine xvalP (pv_pick rfl rfl) rfl rfl ?_
                        refine xvalP (pv_assign rfl) rfl rfl ?_
                        refine xnil ?_
                        exact xmeet ⟨y153, h, rfl⟩ ⟨(.cons rfl (.refl _) (.nil _)), (SubM.of (.nil _) (.nil _))⟩
                      · replace h := h.2 hp151
                        refine xsetB 72 (b_f hp151) rfl ?_
                        refine xskip rfl rfl ?_
                        refine xvalP (pv_pick rfl rfl) rfl rfl ?_
                        refine xvalP (pv_assign rfl) rfl rfl ?_
                        refine xnil ?_
                        exact xmeet ⟨false, h, rfl⟩ ⟨(.cons rfl (.refl _) (.nil _)), (SubM.of (.nil _) (.nil _))⟩
                    · replace h := h.2 hp144
                      refine xsetB 64 (decide_eq_false hp144) rfl ?_
                      refine xskip rfl rfl ?_
                      refine xskip rfl rfl ?_
                      refine xskip rfl rfl ?_
                      refine xskip rfl rfl ?_
                      refine xskip rfl rfl ?_
                      refine xskip rfl rfl ?_
                      refine xvalP (pv_pick rfl rfl) rfl rfl ?_
                      refine xvalP (pv_move rfl) rfl rfl ?_
                      refine xskip rfl rfl ?_
                      refine xvalP (pv_pick rfl rfl) rfl rfl ?_
                      refine xvalP (pv_assign rfl) rfl rfl ?_
                      refine xnil ?_
                      exact xmeet ⟨false, h, rfl⟩ ⟨(.cons rfl (.refl _) (.nil _)), (SubM.of (.nil _) (.nil _))⟩
                  · replace h := h.2 hp142
                    refine xsetB 59 (decide_eq_false hp142) rfl ?_
                    refine xskip rfl rfl ?_
                    refine xskip rfl rfl ?_
                    refine xskip rfl rfl ?_
                    refine xvalP (pv_pick rfl rfl) rfl rfl ?_
                    refine xvalP (pv_move rfl) rfl rfl ?_
                    refine xskip rfl rfl ?_
                    refine xskip rfl rfl ?_
                    refine xskip rfl rfl ?_
                    refine xskip rfl rfl ?_
                    refine xskip rfl rfl ?_
                    refine xskip rfl rfl ?_
                    refine xvalP (pv_pick rfl rfl) rfl rfl ?_
                    refine xvalP (pv_move rfl) rfl rfl ?_
                    refine xskip rfl rfl ?_
                    refine xvalP (pv_pick rfl rfl) rfl rfl ?_
                    refine xvalP (pv_assign rfl) rfl rfl ?_
                    refine xnil ?_
                    exact xmeet ⟨false, h, rfl⟩ ⟨(.cons rfl (.refl _) (.nil _)), (SubM.of (.nil _) (.nil _))⟩
                · replace h := h.2 hp137
                  refine xsetB 51 (decide_eq_false hp137) rfl ?_
                  refine xskip rfl rfl ?_
                  refine xskip rfl rfl ?_
                  refine xskip rfl rfl ?_
                  refine xskip rfl rfl ?_
                  refine xskip rfl rfl ?_
                  refine xskip rfl rfl ?_
                  refine xvalP (pv_pick rfl rfl) rfl rfl ?_
                  refine xvalP (pv_move rfl) rfl rfl ?_
                  refine xskip rfl rfl ?_
                  refine xskip rfl rfl ?_
                  refine xskip rfl rfl ?_
                  refine xvalP (pv_pick rfl rfl) rfl rfl ?_
                  refine xvalP (pv_move rfl) rfl rfl ?_
                  refine xskip rfl rfl ?_
                  refine xskip rfl rfl ?_
                  refine xskip rfl rfl ?_
                  refine xskip rfl rfl ?_
                  refine xskip rfl rfl ?_
                  refine xskip rfl rfl ?_
                  refine xvalP (pv_pick rfl rfl) rfl rfl ?_
                  refine xvalP (pv_move rfl) rfl rfl ?_
                  refine xskip rfl rfl ?_
                  refine xvalP (pv_pick rfl rfl) rfl rfl ?_
                  refine xvalP (pv_assign rfl) rfl rfl ?_
                  refine xnil ?_
                  exact xmeet ⟨false, h, rfl⟩ ⟨(.cons rfl (.refl _) (.nil _)), (SubM.of (.nil _) (.nil _))⟩
              · replace h := h.2 hp132
                refine xsetB 42 (b_f hp132) rfl ?_
                refine xskip rfl rfl ?_
                refine xskip rfl rfl ?_
                refine xskip rfl rfl ?_
                refine xskip rfl rfl ?_
                refine xskip rfl rfl ?_
                refine xskip rfl rfl ?_
                refine xskip rfl rfl ?_
                refine xvalP (pv_pick rfl rfl) rfl rfl ?_
                refine xvalP (pv_move rfl) rfl rfl ?_
                refine xskip rfl rfl ?_
                refine xskip rfl rfl ?_
                refine xskip rfl rfl ?_
                refine xskip rfl rfl ?_
                refine xskip rfl rfl ?_
                refine xskip rfl rfl ?_
                refine xvalP (pv_pick rfl rfl) rfl rfl ?_
                refine xvalP (pv_move rfl) rfl rfl ?_
                refine xskip rfl rfl ?_
                refine xskip rfl rfl ?_
                refine xskip rfl rfl ?_
                refine xvalP (pv_pick rfl rfl) rfl rfl ?_
                refine xvalP (pv_move rfl) rfl rfl ?_
                refine xskip rfl rfl ?_
                refine xskip rfl rfl ?_
                refine xskip rfl rfl ?_
                refine xskip rfl rfl ?_
                refine xskip rfl rfl ?_
                refine xskip rfl rfl ?_
                refine xvalP (pv_pick rfl rfl) rfl rfl ?_
                refine xvalP (pv_move rfl) rfl rfl ?_
                refine xskip rfl rfl ?_
                refine xvalP (pv_pick rfl rfl) rfl rfl ?_
                refine xvalP (pv_assign rfl) rfl rfl ?_
                refine xnil ?_
                exact xmeet ⟨false, h, rfl⟩ ⟨(.cons rfl (.refl _) (.nil _)), (SubM.of (.nil _) (.nil _))⟩
            · clear h
              rintro _ ⟨x128, h, rfl⟩
              refine xretc ?_
              replace h := h.symm
              subst h
              exact xret1 hg rfl rfl (.refl _) (SubM.of (.nil _) (.nil _)) ⟨rfl, rfl, rfl⟩
end Go.Proofs.Ytljlaggehilpfaa
