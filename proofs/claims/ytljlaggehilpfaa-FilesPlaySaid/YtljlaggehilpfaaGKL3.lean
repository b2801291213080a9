/- What functions' texts ask for, and the walks that show it (printed by a program). -/
import Derived.Test.YtljlaggehilpfaaGK
namespace Go.Proofs.Ytljlaggehilpfaa
/-- palinodelaw03.FilesBack -/
def palinodelaw03_FilesBack_j2 (r : Bool) : Prop :=
  ∃ y61 : Bool, palinodelaw03_awake_R y61 ∧ r = y61
def palinodelaw03_FilesBack_j4 (x1 : List (ByteArray × (List UInt8))) (x180 : Bool) (l181 : List (ByteArray × (List UInt8))) (r : Bool) : Prop :=
  ((x180 = true → r = false) ∧ (¬ (x180 = true) → ∃ y222 : (List (ByteArray × (List UInt8))), files_Table_All_R l181 y222 ∧ ∃ y225 : Bool, palinoderef03_Same_R y222 x1 y225 ∧ ((y225 = true → ∃ y228 : Bool, palinodelaw03_awake_R y228 ∧ r = y228) ∧ (¬ (y225 = true) → r = false))))
def palinodelaw03_FilesBack_j3 (x2 : Int) (x1 : List (ByteArray × (List UInt8))) (x34 : (List (ByteArray × (List UInt8)))) (x3 : List (List UInt8)) (x75 : Bool) (r : Bool) : Prop :=
  ((x75 = true → r = false) ∧ (¬ (x75 = true) → ∃ y84 : Int, palinoderef01_Pick_R x2 (x1.length : Int) y84 ∧ 0 ≤ (y84 : Int) ∧ ∃ y85 : ByteArray × (List UInt8), x1[(y84 : Int).toNat]? = some y85 ∧ ∃ y88 : Int, files_Table_Len_R x34 y85.1 y88 ∧ ∃ y184 : Int × (List (ByteArray × (List UInt8))), files_Table_Add_R x34 y85.1 x3 y184 ∧ ((¬ (y184.1 = 0) → palinodelaw03_FilesBack_j4 x1 true y184.2 r) ∧ (¬ (¬ (y184.1 = 0)) → ∃ y189 : Int, files_Table_Len_R y184.2 y85.1 y189 ∧ ∃ y191 : (List UInt8), palinodelaw03_all_R ([] : List UInt8) x3 y191 ∧ InR (y88 + (y191.length : Int)) ∧ ((¬ (y189 = (y88 + (y191.length : Int))) → palinodelaw03_FilesBack_j4 x1 true y184.2 r) ∧ (¬ (¬ (y189 = (y88 + (y191.length : Int)))) → ∃ y198 : (List UInt8), palinodelaw03_all_R ([] : List UInt8) x3 y198 ∧ InR (y88 + (y198.length : Int)) ∧ InR ((y88 + (y198.length : Int)) + 1) ∧ ∃ y204 : Int × (List (ByteArray × (List UInt8))), files_Table_Cut_R y184.2 y85.1 ((y88 + (y198.length : Int)) + 1) y204 ∧ ((¬ (y204.1 = 3) → palinodelaw03_FilesBack_j4 x1 true y204.2 r) ∧ (¬ (¬ (y204.1 = 3)) → ∃ y209 : Int × (List (ByteArray × (List UInt8))), files_Table_Cut_R y204.2 y85.1 y88 y209 ∧ palinodelaw03_FilesBack_j4 x1 (!(decide (y209.1 = 0))) y209.2 r))))))))
def palinodelaw03_FilesBack_j1 (x1 : List (ByteArray × (List UInt8))) (x2 : Int) (x3 : List (List UInt8)) (x23 : Bool) (r : Bool) : Prop :=
  ((x23 = true → ∃ y31 : Bool, palinodelaw03_awake_R y31 ∧ r = y31) ∧ (¬ (x23 = true) → ∃ y33 : Int × (Option ((List (ByteArray × (List UInt8))))), files_New_R x1 y33 ∧ ((y33.2 = none → ((¬ (y33.1 = 0) → palinodelaw03_FilesBack_j2 r) ∧ (¬ (¬ (y33.1 = 0)) → palinodelaw03_FilesBack_j2 r))) ∧ (∀ x34 : (List (ByteArray × (List UInt8))), y33.2 = some x34 → palinodelaw03_FilesBack_j3 x2 x1 x34 x3 ((!(decide (y33.1 = 0))) || false) r))))
def palinodelaw03_FilesBack_R (x1 : List (ByteArray × (List UInt8))) (x2 : Int) (x3 : List (List UInt8)) (r : Bool) : Prop :=
  ∃ y25 : Bool, palinodelaw03_great_R x1 ([(0, 0, (⟨#[]⟩ : ByteArray), x3)]) y25 ∧ palinodelaw03_FilesBack_j1 x1 x2 x3 (y25 || (decide ((x1.length : Int) < 1))) r
def palinodelaw03_FilesBack_j2_ev (fuel : Nat) : Option (Bool) :=
  ((palinodelaw03_awake_ev fuel).bind fun y61 => some y61)
theorem palinodelaw03_FilesBack_j2_ok {fuel : Nat} {r : Bool} (h : palinodelaw03_FilesBack_j2_ev fuel = some r) : palinodelaw03_FilesBack_j2 r := by
  unfold palinodelaw03_FilesBack_j2_ev at h
  unfold palinodelaw03_FilesBack_j2
  obtain ⟨q246, g246, h⟩ := bind_ok h
  refine ⟨q246, palinodelaw03_awake_ok g246, ?_⟩
  exact (Option.some.inj h).symm
def palinodelaw03_FilesBack_j4_ev (fuel : Nat) (x1 : List (ByteArray × (List UInt8))) (x180 : Bool) (l181 : List (ByteArray × (List UInt8))) : Option (Bool) :=
  (if x180 = true then some false else ((files_Table_All_ev fuel l181).bind fun y222 => ((palinoderef03_Same_ev fuel y222 x1).bind fun y225 => (if y225 = true then ((palinodelaw03_awake_ev fuel).bind fun y228 => some y228) else some false))))
theorem palinodelaw03_FilesBack_j4_ok {fuel : Nat} {x1 : List (ByteArray × (List UInt8))} {x180 : Bool} {l181 : List (ByteArray × (List UInt8))} {r : Bool} (h : palinodelaw03_FilesBack_j4_ev fuel x1 x180 l181 = some r) : palinodelaw03_FilesBack_j4 x1 x180 l181 r := by
  unfold palinodelaw03_FilesBack_j4_ev at h
  unfold palinodelaw03_FilesBack_j4
  refine ⟨fun g247 => ?_, fun g247 => ?_⟩
  · rw [if_pos g247] at h
    exact (Option.some.inj h).symm
  · rw [if_neg g247] at h
    obtain ⟨q248, g248, h⟩ := bind_ok h
    refine ⟨q248, files_Table_All_ok g248, ?_⟩
    obtain ⟨q249, g249, h⟩ := bind_ok h
    refine ⟨q249, palinoderef03_Same_ok g249, ?_⟩
    refine ⟨fun g250 => ?_, fun g250 => ?_⟩
    · rw [if_pos g250] at h
      obtain ⟨q251, g251, h⟩ := bind_ok h
      refine ⟨q251, palinodelaw03_awake_ok g251, ?_⟩
      exact (Option.some.inj h).symm
    · rw [if_neg g250] at h
      exact (Option.some.inj h).symm
def palinodelaw03_FilesBack_j3_ev (fuel : Nat) (x2 : Int) (x1 : List (ByteArray × (List UInt8))) (x34 : (List (ByteArray × (List UInt8)))) (x3 : List (List UInt8)) (x75 : Bool) : Option (Bool) :=
  (if x75 = true then some false else ((palinoderef01_Pick_ev fuel x2 (x1.length : Int)).bind fun y84 => (if 0 ≤ (y84 : Int) then ((x1[(y84 : Int).toNat]?).bind fun y85 => ((files_Table_Len_ev fuel x34 y85.1).bind fun y88 => ((files_Table_Add_ev fuel x34 y85.1 x3).bind fun y184 => (if ¬ (y184.1 = 0) then palinodelaw03_FilesBack_j4_ev fuel x1 true y184.2 else ((files_Table_Len_ev fuel y184.2 y85.1).bind fun y189 => ((palinodelaw03_all_ev fuel ([] : List UInt8) x3).bind fun y191 => (if InR (y88 + (y191.length : Int)) then (if ¬ (y189 = (y88 + (y191.length : Int))) then palinodelaw03_FilesBack_j4_ev fuel x1 true y184.2 else ((palinodelaw03_all_ev fuel ([] : List UInt8) x3).bind fun y198 => (if InR (y88 + (y198.length : Int)) then (if InR ((y88 + (y198.length : Int)) + 1) then ((files_Table_Cut_ev fuel y184.2 y85.1 ((y88 + (y198.length : Int)) + 1)).bind fun y204 => (if ¬ (y204.1 = 3) then palinodelaw03_FilesBack_j4_ev fuel x1 true y204.2 else ((files_Table_Cut_ev fuel y204.2 y85.1 y88).bind fun y209 => palinodelaw03_FilesBack_j4_ev fuel x1 (!(decide (y209.1 = 0))) y209.2))) else none) else none))) else none))))))) else none)))
theorem palinodelaw03_FilesBack_j3_ok {fuel : Nat} {x2 : Int} {x1 : List (ByteArray × (List UInt8))} {x34 : (List (ByteArray × (List UInt8)))} {x3 : List (List UInt8)} {x75 : Bool} {r : Bool} (h : palinodelaw03_FilesBack_j3_ev fuel x2 x1 x34 x3 x75 = some r) : palinodelaw03_FilesBack_j3 x2 x1 x34 x3 x75 r := by
  unfold palinodelaw03_FilesBack_j3_ev at h
  unfold palinodelaw03_FilesBack_j3
  refine ⟨fun g252 => ?_, fun g252 => ?_⟩
  · rw [if_pos g252] at h
    exact (Option.some.inj h).symm
  · rw [if_neg g252] at h
    obtain ⟨q253, g253, h⟩ := bind_ok h
    refine ⟨q253, palinoderef01_Pick_ok g253, ?_⟩
    obtain ⟨g254, h⟩ := if_ok h
    refine ⟨g254, ?_⟩
    obtain ⟨q255, g255, h⟩ := bind_ok h
    refine ⟨q255, g255, ?_⟩
    obtain ⟨q256, g256, h⟩ := bind_ok h
    refine ⟨q256, files_Table_Len_ok g256, ?_⟩
    obtain ⟨q257, g257, h⟩ := bind_ok h
    refine ⟨q257, files_Table_Add_ok g257, ?_⟩
    refine ⟨fun g258 => ?_, fun g258 => ?_⟩
    · rw [if_pos g258] at h
      exact palinodelaw03_FilesBack_j4_ok h
    · rw [if_neg g258] at h
      obtain ⟨q259, g259, h⟩ := bind_ok h
      refine ⟨q259, files_Table_Len_ok g259, ?_⟩
      obtain ⟨q260, g260, h⟩ := bind_ok h
      refine ⟨q260, palinodelaw03_all_ok g260, ?_⟩
      obtain ⟨g261, h⟩ := if_ok h
      refine ⟨g261, ?_⟩
      refine ⟨fun g262 => ?_, fun g262 => ?_⟩
      · rw [if_pos g262] at h
        exact palinodelaw03_FilesBack_j4_ok h
      · rw [if_neg g262] at h
        obtain ⟨q263, g263, h⟩ := bind_ok h
        refine ⟨q263, palinodelaw03_all_ok g263, ?_⟩
        obtain ⟨g264, h⟩ := if_ok h
        refine ⟨g264, ?_⟩
        obtain ⟨g265, h⟩ := if_ok h
        refine ⟨g265, ?_⟩
        obtain ⟨q266, g266, h⟩ := bind_ok h
        refine ⟨q266, files_Table_Cut_ok g266, ?_⟩
        refine ⟨fun g267 => ?_, fun g267 => ?_⟩
        · rw [if_pos g267] at h
          exact palinodelaw03_FilesBack_j4_ok h
        · rw [if_neg g267] at h
          obtain ⟨q268, g268, h⟩ := bind_ok h
          refine ⟨q268, files_Table_Cut_ok g268, ?_⟩
          exact palinodelaw03_FilesBack_j4_ok h
def palinodelaw03_FilesBack_j1_ev (fuel : Nat) (x1 : List (ByteArray × (List UInt8))) (x2 : Int) (x3 : List (List UInt8)) (x23 : Bool) : Option (Bool) :=
  (if x23 = true then ((palinodelaw03_awake_ev fuel).bind fun y31 => some y31) else ((files_New_ev fuel x1).bind fun y33 => (optE (y33.2) ((if ¬ (y33.1 = 0) then palinodelaw03_FilesBack_j2_ev fuel else palinodelaw03_FilesBack_j2_ev fuel)) fun x34 => palinodelaw03_FilesBack_j3_ev fuel x2 x1 x34 x3 ((!(decide (y33.1 = 0))) || false))))
theorem palinodelaw03_FilesBack_j1_ok {fuel : Nat} {x1 : List (ByteArray × (List UInt8))} {x2 : Int} {x3 : List (List UInt8)} {x23 : Bool} {r : Bool} (h : palinodelaw03_FilesBack_j1_ev fuel x1 x2 x3 x23 = some r) : palinodelaw03_FilesBack_j1 x1 x2 x3 x23 r := by
  unfold palinodelaw03_FilesBack_j1_ev at h
  unfold palinodelaw03_FilesBack_j1
  refine ⟨fun g269 => ?_, fun g269 => ?_⟩
  · rw [if_pos g269] at h
    obtain ⟨q270, g270, h⟩ := bind_ok h
    refine ⟨q270, palinodelaw03_awake_ok g270, ?_⟩
    exact (Option.some.inj h).symm
  · rw [if_neg g269] at h
    obtain ⟨q271, g271, h⟩ := bind_ok h
    refine ⟨q271, files_New_ok g271, ?_⟩
    refine ⟨fun g272 => ?_, fun q272 g272 => ?_⟩
    · rw [g272] at h
      simp only [optE] at h
      refine ⟨fun g273 => ?_, fun g273 => ?_⟩
      · rw [if_pos g273] at h
        exact palinodelaw03_FilesBack_j2_ok h
      · rw [if_neg g273] at h
        exact palinodelaw03_FilesBack_j2_ok h
    · rw [g272] at h
      simp only [optE] at h
      exact palinodelaw03_FilesBack_j3_ok h
def palinodelaw03_FilesBack_ev (fuel : Nat) (x1 : List (ByteArray × (List UInt8))) (x2 : Int) (x3 : List (List UInt8)) : Option (Bool) :=
  ((palinodelaw03_great_ev fuel x1 ([(0, 0, (⟨#[]⟩ : ByteArray), x3)])).bind fun y25 => palinodelaw03_FilesBack_j1_ev fuel x1 x2 x3 (y25 || (decide ((x1.length : Int) < 1))))
theorem palinodelaw03_FilesBack_ok {fuel : Nat} {x1 : List (ByteArray × (List UInt8))} {x2 : Int} {x3 : List (List UInt8)} {r : Bool} (h : palinodelaw03_FilesBack_ev fuel x1 x2 x3 = some r) : palinodelaw03_FilesBack_R x1 x2 x3 r := by
  unfold palinodelaw03_FilesBack_ev at h
  unfold palinodelaw03_FilesBack_R
  obtain ⟨q274, g274, h⟩ := bind_ok h
  refine ⟨q274, palinodelaw03_great_ok g274, ?_⟩
  exact palinodelaw03_FilesBack_j1_ok h
set_option maxHeartbeats 4000000 in
theorem palinodelaw03_FilesBack_con (x1 : List (ByteArray × (List UInt8))) (x2 : Int) (x3 : List (List UInt8)) (r : Bool) (h : palinodelaw03_FilesBack_R x1 x2 x3 r) : Con Try.prog 5 [.sl 2 none (List.map E_palinode_api_File x1), .v (.int .i64 x2), .sl 1 none (List.map E_uint8 x3)] [] [] (Ret (.v (.bool r))) := by
  refine xenter Try.func5 rfl rfl fun g hg => ?_
  simp only [Try.ntmps5, slots]
  refine xseq ?_
  refine xregion ?_
  refine xvalP (pv_assign rfl) rfl rfl ?_
  refine xnil ?_
  refine xthen ?_
  refine xseq ?_
  refine xseqM (fun σ => ∃ (x23 : Bool), palinodelaw03_FilesBack_j1 x1 x2 x3 x23 r ∧ σ = ⟨[(0, .sl 2 none (List.map E_palinode_api_File x1)), (1, .v (.int .i64 x2)), (2, .sl 1 none (List.map E_uint8 x3)), (20, .v (.bool x23))], [], []⟩) ?_ ?_
  · refine xregion ?_
    refine xvalP (pv_move rfl) rfl rfl ?_
    refine xvalP (pv_move rfl) rfl rfl ?_
    refine xvalP (pv_buildC StrC.h rfl rfl) rfl rfl ?_
    refine xbuildSliceM (f := E_palinode_palinodelaw03_Act) [(0, 0, (⟨#[]⟩ : ByteArray), x3)] UndC.h InfC.h rfl rfl (by first | exact wkR_of rfl | (repeat (first | exact WkR.nil | refine WkR.cons (by (repeat (first | exact WkL.nil | refine WkL.cons (by first | with_reducible exact Wk.refl _ | exact Wk.nil_own _ | exact Wk.nil_pl _ | with_reducible exact Wk.tok _ _ _ | exact Wk.tok _ _ _ | exact Wk.eq (by first | rfl | (simp []; done) | (simp []; omega))) ?_))) ?_))) rfl rfl rfl rfl fun s14 => ?_
    obtain ⟨y25, h24, h⟩ := h
    refine xcall0 (palinodelaw03_great_con x1 ([(0, 0, (⟨#[]⟩ : ByteArray), x3)]) _ h24) Try.func15 (by kernel_rfl) rfl (.cons rfl (.refl _) (.cons rfl (.tok _ _ _) .nil)) rfl rfl ?_
    refine xvalP (pv_move rfl) rfl rfl ?_
    by_cases hp26 : y25 = true
    · rw [show y25 = true from hp26, Bool.true_or] at h
      refine xsetB 16 hp26 rfl ?_
      refine xskip rfl rfl ?_
      refine xskip rfl rfl ?_
      refine xskip rfl rfl ?_
      refine xvalP (pv_pick rfl rfl) rfl rfl ?_
      refine xnil ?_
      exact xmeet ⟨true, h, rfl⟩ ⟨(.cons rfl (.refl _) (.cons rfl (.refl _) (.cons rfl (.refl _) (.cons rfl (.refl _) (.nil _))))), (SubM.of (.nil _) (.nil _))⟩
    · rw [show y25 = false from (b_f hp26), Bool.false_or] at h
      refine xsetB 16 (b_f hp26) rfl ?_
      refine xvalP (pv_move rfl) rfl rfl ?_
      refine xvalP (pv_lenM UndC.h rfl) rfl rfl ?_
      refine xvalP (pv_bin2 rfl rfl rfl) rfl rfl ?_
      refine xvalP (pv_pick rfl rfl) rfl rfl ?_
      refine xnil ?_
      exact xmeet ⟨(decide ((x1.length : Int) < 1)), h, rfl⟩ ⟨(.cons rfl (.refl _) (.cons rfl (.refl _) (.cons rfl (.refl _) (.cons rfl (.refl _) (.nil _))))), (SubM.of (.nil _) (.nil _))⟩
  · clear h
    rintro _ ⟨x23, h, rfl⟩
    by_cases hp29 : x23 = true
    · replace h := h.1 hp29
      refine xcondT' hp29 rfl ?_
      refine xseq ?_
      refine xregion ?_
      obtain ⟨y31, h30, h⟩ := h
      refine xcall0 (palinodelaw03_awake_con _ h30) Try.func7 (by kernel_rfl) rfl .nil rfl rfl ?_
      refine xvalP (pv_assign rfl) rfl rfl ?_
      refine xnil ?_
      refine xthen ?_
      refine xretc ?_
      refine xthen_ret ?_
      replace h := h.symm
      subst h
      exact xret1 hg rfl rfl (.refl _) (SubM.of (.nil _) (.nil _)) ⟨rfl, rfl, rfl⟩
    · replace h := h.2 hp29
      refine xcondF' (b_f hp29) rfl ?_
      refine xskipc ?_
      refine xthen ?_
      refine xseq ?_
      refine xregion ?_
      refine xvalP (pv_move rfl) rfl rfl ?_
      obtain ⟨y33, h32, h⟩ := h
      refine xcallF (Fb := []) (Ft := []) (files_New_con x1 _ h32) Try.func8 (by kernel_rfl) rfl (.cons rfl (.refl _) .nil) (by exact (SubM.of (by repeat (first | with_reducible exact SubB.refl _ | exact SubB.nil _ | refine SubB.keep rfl rfl (by first | with_reducible exact WkL.refl _ | ((repeat (first | exact WkL.nil | refine WkL.cons (by first | with_reducible exact Wk.refl _ | exact Wk.nil_own _ | exact Wk.nil_pl _ | with_reducible exact Wk.tok _ _ _ | exact Wk.tok _ _ _ | exact Wk.eq (by first | rfl | (simp []; done) | (simp []; omega))) ?_)); done) | exact WkL.refl _) ?_ | refine SubB.drop ?_)) (by repeat (first | exact SubT.nil _ | refine SubT.add ?_ | (refine SubT.keep ?_ ?_; focus (first | with_reducible rfl | (simp []; done))) | refine SubT.drop ?_)))) rfl rfl ?_
      intro rr32 bb32 tt32 hr32
      rcases ho32 : y33.2 with _ | x34
      · have hq32 := hr32.1 ho32
        replace h := h.1 ho32
        obtain ⟨rfl, rfl, rfl⟩ := hq32
        simp only [List.nil_append, List.cons_append]
        refine xvalP (pv_move rfl) rfl rfl ?_
        refine xvalP (pv_extract rfl rfl) rfl rfl ?_
        refine xvalP (pv_extract rfl rfl) rfl rfl ?_
        refine xvalP (pv_assign rfl) rfl rfl ?_
        refine xvalP (pv_assign rfl) rfl rfl ?_
        refine xnil ?_
        refine xthen ?_
        refine xseq ?_
        refine xseqM (fun σ => palinodelaw03_FilesBack_j2 r ∧ σ = ⟨[(0, .sl 2 none (List.map E_palinode_api_File x1)), (1, .v (.int .i64 x2)), (2, .sl 1 none (List.map E_uint8 x3)), (7, .v (.pointer none)), (32, .v (.bool true))], [], []⟩) ?_ ?_
        · refine xregion ?_
          refine xvalP (pv_move rfl) rfl rfl ?_
          refine xvalP (pv_bin2 rfl rfl rfl) rfl rfl ?_
          refine xvalP (pv_move rfl) rfl rfl ?_
          by_cases hp54 : ¬ (y33.1 = 0)
          · replace h := h.1 hp54
            refine xsetB 29 (not_t (decide_eq_false hp54)) rfl ?_
            refine xskip rfl rfl ?_
            refine xskip rfl rfl ?_
            refine xvalP (pv_pick rfl rfl) rfl rfl ?_
            refine xnil ?_
            exact xmeet ⟨h, rfl⟩ ⟨(.cons rfl (.refl _) (.cons rfl (.refl _) (.cons rfl (.refl _) (.cons rfl (.refl _) (.cons rfl (.refl _) (.nil _)))))), (SubM.of (.nil _) (.nil _))⟩
          · replace h := h.2 hp54
            refine xsetB 29 (not_f (decide_eq_true (Decidable.of_not_not hp54))) rfl ?_
            refine xvalP (pv_move rfl) rfl rfl ?_
            refine xvalP (pv_eqNilN UndC.h rfl rfl) rfl rfl ?_
            refine xvalP (pv_pick rfl rfl) rfl rfl ?_
            refine xnil ?_
            exact xmeet ⟨h, rfl⟩ ⟨(.cons rfl (.refl _) (.cons rfl (.refl _) (.cons rfl (.refl _) (.cons rfl (.refl _) (.cons rfl (.refl _) (.nil _)))))), (SubM.of (.nil _) (.nil _))⟩
        · clear h
          rintro _ ⟨h, rfl⟩
          refine xcondT rfl ?_
          refine xseq ?_
          refine xregion ?_
          refine xvalP (pv_move rfl) rfl rfl ?_
          refine xvalP (pv_eqNilN UndC.h rfl rfl) rfl rfl ?_
          refine xvalP (pv_move rfl) rfl rfl ?_
          obtain ⟨y61, h60, h⟩ := h
          refine xcall0 (palinodelaw03_awake_con _ h60) Try.func7 (by kernel_rfl) rfl .nil rfl rfl ?_
          refine xvalP (pv_pick rfl rfl) rfl rfl ?_
          refine xvalP (pv_assign rfl) rfl rfl ?_
          refine xnil ?_
          refine xthen ?_
          refine xretc ?_
          refine xthen_ret ?_
          replace h := h.symm
          subst h
          exact xret1 hg rfl rfl (.refl _) (SubM.of (.nil _) (.nil _)) ⟨rfl, rfl, rfl⟩
      · have hq32 := hr32.2 x34 ho32
        replace h := h.2 x34 ho32
        obtain ⟨b37, i35, rfl, rfl, rfl⟩ := hq32
        simp only [List.nil_append, List.cons_append]
        refine xvalP (pv_move rfl) rfl rfl ?_
        refine xvalP (pv_extract rfl rfl) rfl rfl ?_
        refine xvalP (pv_extract rfl rfl) rfl rfl ?_
        refine xvalP (pv_assign rfl) rfl rfl ?_
        refine xvalP (pv_assign rfl) rfl rfl ?_
        refine xnil ?_
        refine xthen ?_
        refine xseq ?_
        refine xseqM (fun σ => ∃ (x75 : Bool), palinodelaw03_FilesBack_j3 x2 x1 x34 x3 x75 r ∧ σ = ⟨[(0, .sl 2 none (List.map E_palinode_api_File x1)), (1, .v (.int .i64 x2)), (2, .sl 1 none (List.map E_uint8 x3)), (7, .v (.pointer (some ⟨b37, 0, none⟩))), (32, .v (.bool x75))], [rbx i35 30 2 (List.map E_palinode_api_File x34), ⟨b37, 60, [.rb i35 x34.length]⟩], []⟩) ?_ ?_
        · refine xregion ?_
          refine xvalP (pv_move rfl) rfl rfl ?_
          refine xvalP (pv_bin2 rfl rfl rfl) rfl rfl ?_
          refine xvalP (pv_move rfl) rfl rfl ?_
          by_cases hp77 : ¬ (y33.1 = 0)
          · rw [show (!(decide (y33.1 = 0))) = true from (not_t (decide_eq_false hp77)), Bool.true_or] at h
            refine xsetB 29 (not_t (decide_eq_false hp77)) rfl ?_
            refine xskip rfl rfl ?_
            refine xskip rfl rfl ?_
            refine xvalP (pv_pick rfl rfl) rfl rfl ?_
            refine xnil ?_
            exact xmeet ⟨true, h, rfl⟩ ⟨(.cons rfl (.refl _) (.cons rfl (.refl _) (.cons rfl (.refl _) (.cons rfl (.refl _) (.cons rfl (.refl _) (.nil _)))))), by exact (SubM.of (.keep rfl rfl (.refl _) (.keep rfl rfl (.cons (.eq (by first | rfl | simp)) .nil) (.nil _))) (.nil _))⟩
          · rw [show (!(decide (y33.1 = 0))) = false from (not_f (decide_eq_true (Decidable.of_not_not hp77))), Bool.false_or] at h
            refine xsetB 29 (not_f (decide_eq_true (Decidable.of_not_not hp77))) rfl ?_
            refine xvalP (pv_move rfl) rfl rfl ?_
            refine xvalP (pv_eqNil UndC.h rfl rfl) rfl rfl ?_
            refine xvalP (pv_pick rfl rfl) rfl rfl ?_
            refine xnil ?_
            exact xmeet ⟨false, h, rfl⟩ ⟨(.cons rfl (.refl _) (.cons rfl (.refl _) (.cons rfl (.refl _) (.cons rfl (.refl _) (.cons rfl (.refl _) (.nil _)))))), by exact (SubM.of (.keep rfl rfl (.refl _) (.keep rfl rfl (.cons (.eq (by first | rfl | simp)) .nil) (.nil _))) (.nil _))⟩
        · clear h
          rintro _ ⟨x75, h, rfl⟩
          by_cases hp79 : x75 = true
          · replace h := h.1 hp79
            refine xcondT' hp79 rfl ?_
            refine xseq ?_
            refine xregion ?_
            refine xvalP (pv_move rfl) rfl rfl ?_
            refine xvalP (pv_eqNil UndC.h rfl rfl) rfl rfl ?_
            refine xvalP (pv_move rfl) rfl rfl ?_
            refine xskip rfl rfl ?_
            refine xvalP (pv_pick rfl rfl) rfl rfl ?_
            refine xvalP (pv_assign rfl) rfl rfl ?_
            refine xnil ?_
            refine xthen ?_
            refine xretc ?_
            refine xthen_ret ?_
            replace h := h.symm
            subst h
            exact xret1 (bx' := []) (tk' := []) hg rfl rfl (.refl _) (SubM.of (.nil _) (.nil _)) ⟨rfl, rfl, rfl⟩
          · replace h := h.2 hp79
            refine xcondF' (b_f hp79) rfl ?_
            refine xskipc ?_
            refine xthen ?_
            refine xseq ?_
            refine xregion ?_
            refine xvalP (pv_move rfl) rfl rfl ?_
            refine xvalP (pv_move rfl) rfl rfl ?_
            refine xvalP (pv_move rfl) rfl rfl ?_
            refine xvalP (pv_lenM UndC.h rfl) rfl rfl ?_
            obtain ⟨y84, h83, h⟩ := h
            refine xcall0 (palinoderef01_Pick_con x2 (x1.length : Int) _ h83) Try.func16 (by kernel_rfl) rfl (.cons rfl (.refl _) (.cons rfl (.refl _) .nil)) rfl rfl ?_
            obtain ⟨h86a, h⟩ := h
            obtain ⟨y85, h86b, h⟩ := h
            refine xvalP (pv_indexAddrM h86a h86b UndC.h ShpC.h rfl rfl) rfl rfl ?_
            refine xvalP (qv_fieldAddrE FldC.h rfl) rfl rfl ?_
            refine xval (qv_load ShpC.h rfl rfl rfl) rfl rfl ?_
            refine xvalP (pv_assign rfl) rfl rfl ?_
            refine xnil ?_
            refine xthen ?_
            refine xseq ?_
            refine xregion ?_
            refine xvalP (pv_move rfl) rfl rfl ?_
            refine xvalP (pv_move rfl) rfl rfl ?_
            obtain ⟨y88, h87, h⟩ := h
            refine xcallF (Fb := []) (Ft := []) (files_Table_Len_con x34 y85.1 b37 i35 _ h87) Try.func14 (by kernel_rfl) rfl (.cons rfl (.refl _) (.cons rfl (.refl _) .nil)) (by refine SubM.trans (SubM.mvB 0 rfl) ?_; refine SubM.trans (SubM.mvB 1 rfl) ?_; (simp only [List.eraseIdx]); exact (SubM.of (by repeat (first | with_reducible exact SubB.refl _ | exact SubB.nil _ | refine SubB.keep rfl rfl (by first | with_reducible exact WkL.refl _ | ((repeat (first | exact WkL.nil | refine WkL.cons (by first | with_reducible exact Wk.refl _ | exact Wk.nil_own _ | exact Wk.nil_pl _ | with_reducible exact Wk.tok _ _ _ | exact Wk.tok _ _ _ | exact Wk.eq (by first | rfl | (simp []; done) | (simp []; omega))) ?_)); done) | exact WkL.refl _) ?_ | refine SubB.drop ?_)) (by repeat (first | exact SubT.nil _ | refine SubT.add ?_ | (refine SubT.keep ?_ ?_; focus (first | with_reducible rfl | (simp []; done))) | refine SubT.drop ?_)))) rfl rfl ?_
            rintro _ _ _ ⟨rfl, rfl, rfl⟩
            simp only [List.nil_append, List.cons_append]
            refine xvalP (pv_assign rfl) rfl rfl ?_
            refine xnil ?_
            refine xthen ?_
            refine xseq ?_
            refine xseqM (fun σ => ∃ (x180 : Bool), ∃ (l181 : List (ByteArray × (List UInt8))), ∃ (i182 : Option (Nat × Nat)), palinodelaw03_FilesBack_j4 x1 x180 l181 r ∧ σ = ⟨[(0, .sl 2 none (List.map E_palinode_api_File x1)), (7, .v (.pointer (some ⟨b37, 0, none⟩))), (83, .v (.bool x180))], [rbx i182 30 2 (List.map E_palinode_api_File l181), ⟨b37, 60, [.rb i182 l181.length]⟩], []⟩) ?_ ?_
            · refine xregion ?_
              refine xvalP (pv_move rfl) rfl rfl ?_
              refine xvalP (pv_move rfl) rfl rfl ?_
              refine xvalP (pv_move rfl) rfl rfl ?_
              obtain ⟨y184, h183, h⟩ := h
              refine xcallF (Fb := []) (Ft := []) (files_Table_Add_con x34 y85.1 x3 b37 i35 _ h183) Try.func11 (by kernel_rfl) rfl (.cons rfl (.refl _) (.cons rfl (.refl _) (.cons rfl (.refl _) .nil))) (by refine SubM.trans (SubM.mvB 0 rfl) ?_; refine SubM.trans (SubM.mvB 1 rfl) ?_; (simp only [List.eraseIdx]); exact (SubM.of (by repeat (first | with_reducible exact SubB.refl _ | exact SubB.nil _ | refine SubB.keep rfl rfl (by first | with_reducible exact WkL.refl _ | ((repeat (first | exact WkL.nil | refine WkL.cons (by first | with_reducible exact Wk.refl _ | exact Wk.nil_own _ | exact Wk.nil_pl _ | with_reducible exact Wk.tok _ _ _ | exact Wk.tok _ _ _ | exact Wk.eq (by first | rfl | (simp []; done) | (simp []; omega))) ?_)); done) | exact WkL.refl _) ?_ | refine SubB.drop ?_)) (by repeat (first | exact SubT.nil _ | refine SubT.add ?_ | (refine SubT.keep ?_ ?_; focus (first | with_reducible rfl | (simp []; done))) | refine SubT.drop ?_)))) rfl rfl ?_
              rintro _ _ _ ⟨i185, rfl, rfl, rfl⟩
              simp only [List.nil_append, List.cons_append]
              refine xvalP (pv_bin2 rfl rfl rfl) rfl rfl ?_
              refine xvalP (pv_move rfl) rfl rfl ?_
              by_cases hp187 : ¬ (y184.1 = 0)
              · replace h := h.1 hp187
                refine xsetB 54 (not_t (decide_eq_false hp187)) rfl ?_
                refine xskip rfl rfl ?_
                refine xskip rfl rfl ?_
                refine xskip rfl rfl ?_
                refine xskip rfl rfl ?_
                refine xskip rfl rfl ?_
                refine xskip rfl rfl ?_
                refine xskip rfl rfl ?_
                refine xskip rfl rfl ?_
                refine xskip rfl rfl ?_
                refine xvalP (pv_pick rfl rfl) rfl rfl ?_
                refine xvalP (pv_move rfl) rfl rfl ?_
                refine xskip rfl rfl ?_
                refine xskip rfl rfl ?_
                refine xskip rfl rfl ?_
                refine xskip rfl rfl ?_
                refine xskip rfl rfl ?_
                refine xskip rfl rfl ?_
                refine xskip rfl rfl ?_
                refine xskip rfl rfl ?_
                refine xskip rfl rfl ?_
                refine xskip rfl rfl ?_
                refine xvalP (pv_pick rfl rfl) rfl rfl ?_
                refine xvalP (pv_move rfl) rfl rfl ?_
                refine xskip rfl rfl ?_
                refine xskip rfl rfl ?_
                refine xskip rfl rfl ?_
                refine xskip rfl rfl ?_
                refine xskip rfl rfl ?_
                refine xvalP (pv_pick rfl rfl) rfl rfl ?_
                refine xnil ?_
                exact xmeet ⟨true, y184.2, i185, h, rfl⟩ ⟨(.cons rfl (.refl _) (.cons rfl (.refl _) (.cons rfl (.refl _) (.nil _)))), by exact (SubM.of (.keep rfl rfl (.refl _) (.keep rfl rfl (.cons (.eq (by first | rfl | simp)) .nil) (.nil _))) (.nil _))⟩
              · replace h := h.2 hp187
                refine xsetB 54 (not_f (decide_eq_true (Decidable.of_not_not hp187))) rfl ?_
                refine xvalP (pv_move rfl) rfl rfl ?_
                refine xvalP (pv_move rfl) rfl rfl ?_
                obtain ⟨y189, h188, h⟩ := h
                refine xcallF (Fb := []) (Ft := []) (files_Table_Len_con y184.2 y85.1 b37 i185 _ h188) Try.func14 (by kernel_rfl) rfl (.cons rfl (.refl _) (.cons rfl (.refl _) .nil)) (by refine SubM.trans (SubM.mvB 0 rfl) ?_; refine SubM.trans (SubM.mvB 1 rfl) ?_; (simp only [List.eraseIdx]); exact (SubM.of (by repeat (first | with_reducible exact SubB.refl _ | exact SubB.nil _ | refine SubB.keep rfl rfl (by first | with_reducible exact WkL.refl _ | ((repeat (first | exact WkL.nil | refine WkL.cons (by first | with_reducible exact Wk.refl _ | exact Wk.nil_own _ | exact Wk.nil_pl _ | with_reducible exact Wk.tok _ _ _ | exact Wk.tok _ _ _ | exact Wk.eq (by first | rfl | (simp []; done) | (simp []; omega))) ?_)); done) | exact WkL.refl _) ?_ | refine SubB.drop ?_)) (by repeat (first | exact SubT.nil _ | refine SubT.add ?_ | (refine SubT.keep ?_ ?_; focus (first | with_reducible rfl | (simp []; done))) | refine SubT.drop ?_)))) rfl rfl ?_
                rintro _ _ _ ⟨rfl, rfl, rfl⟩
                simp only [List.nil_append, List.cons_append]
                refine xvalP (pv_move rfl) rfl rfl ?_
                refine xvalP (pv_move rfl) rfl rfl ?_
                obtain ⟨y191, h190, h⟩ := h
                refine xcallM (palinodelaw03_all_con ([] : List UInt8) x3 _ h190) Try.func17 (by kernel_rfl) rfl (.cons rfl (.nil_pl _) (.cons rfl (.refl _) .nil)) rfl rfl fun i192 => ?_
                refine xvalP (pv_lenM UndC.h rfl) rfl rfl ?_
                obtain ⟨h194, h⟩ := h
                refine xvalP (pv_addI h194 rfl rfl) rfl rfl ?_
                refine xvalP (pv_bin2 rfl rfl rfl) rfl rfl ?_
                refine xvalP (pv_pick rfl rfl) rfl rfl ?_
                refine xvalP (pv_move rfl) rfl rfl ?_
                by_cases hp196 : ¬ (y189 = (y88 + (y191.length : Int)))
                · replace h := h.1 hp196
                  refine xsetB 65 (not_t (decide_eq_false hp196)) rfl ?_
                  refine xskip rfl rfl ?_
                  refine xskip rfl rfl ?_
                  refine xskip rfl rfl ?_
                  refine xskip rfl rfl ?_
                  refine xskip rfl rfl ?_
                  refine xskip rfl rfl ?_
                  refine xskip rfl rfl ?_
                  refine xskip rfl rfl ?_
                  refine xskip rfl rfl ?_
                  refine xskip rfl rfl ?_
                  refine xvalP (pv_pick rfl rfl) rfl rfl ?_
                  refine xvalP (pv_move rfl) rfl rfl ?_
                  refine xskip rfl rfl ?_
                  refine xskip rfl rfl ?_
                  refine xskip rfl rfl ?_
                  refine xskip rfl rfl ?_
                  refine xskip rfl rfl ?_
                  refine xvalP (pv_pick rfl rfl) rfl rfl ?_
                  refine xnil ?_
                  exact xmeet ⟨true, y184.2, i185, h, rfl⟩ ⟨(.cons rfl (.refl _) (.cons rfl (.refl _) (.cons rfl (.refl _) (.nil _)))), by exact (SubM.of (.keep rfl rfl (.refl _) (.keep rfl rfl (.cons (.eq (by first | rfl | simp)) .nil) (.nil _))) (.nil _))⟩
                · replace h := h.2 hp196
                  refine xsetB 65 (not_f (decide_eq_true (Decidable.of_not_not hp196))) rfl ?_
                  refine xvalP (pv_move rfl) rfl rfl ?_
                  refine xvalP (pv_move rfl) rfl rfl ?_
                  refine xvalP (pv_move rfl) rfl rfl ?_
                  refine xvalP (pv_move rfl) rfl rfl ?_
                  obtain ⟨y198, h197, h⟩ := h
                  refine xcallM (palinodelaw03_all_con ([] : List UInt8) x3 _ h197) Try.func17 (by kernel_rfl) rfl (.cons rfl (.nil_pl _) (.cons rfl (.refl _) .nil)) rfl rfl fun i199 => ?_
                  refine xvalP (pv_lenM UndC.h rfl) rfl rfl ?_
                  obtain ⟨h201, h⟩ := h
                  refine xvalP (pv_addI h201 rfl rfl) rfl rfl ?_
                  obtain ⟨h202, h⟩ := h
                  refine xvalP (pv_addI h202 rfl rfl) rfl rfl ?_
                  obtain ⟨y204, h203, h⟩ := h
                  refine xcallF (Fb := []) (Ft := [⟨i199, 5, 1, y198.length⟩, ⟨i192, 5, 1, y191.length⟩]) (files_Table_Cut_con y184.2 y85.1 ((y88 + (y198.length : Int)) + 1) b37 i185 _ h203) Try.func18 (by kernel_rfl) rfl (.cons rfl (.refl _) (.cons rfl (.refl _) (.cons rfl (.refl _) .nil))) (by refine SubM.trans (SubM.mvB 0 rfl) ?_; refine SubM.trans (SubM.mvB 1 rfl) ?_; (simp only [List.eraseIdx]); exact (SubM.of (by repeat (first | with_reducible exact SubB.refl _ | exact SubB.nil _ | refine SubB.keep rfl rfl (by first | with_reducible exact WkL.refl _ | ((repeat (first | exact WkL.nil | refine WkL.cons (by first | with_reducible exact Wk.refl _ | exact Wk.nil_own _ | exact Wk.nil_pl _ | with_reducible exact Wk.tok _ _ _ | exact Wk.tok _ _ _ | exact Wk.eq (by first | rfl | (simp []; done) | (simp []; omega))) ?_)); done) | exact WkL.refl _) ?_ | refine SubB.drop ?_)) (by repeat (first | exact SubT.nil _ | refine SubT.add ?_ | (refine SubT.keep ?_ ?_; focus (first | with_reducible rfl | (simp []; done))) | refine SubT.drop ?_)))) rfl rfl ?_
                  rintro _ _ _ ⟨i205, rfl, rfl, rfl⟩
                  simp only [List.nil_append, List.cons_append]
                  refine xvalP (pv_bin2 rfl rfl rfl) rfl rfl ?_
                  refine xvalP (pv_pick rfl rfl) rfl rfl ?_
                  refine xvalP (pv_move rfl) rfl rfl ?_
                  by_cases hp207 : ¬ (y204.1 = 3)
                  · replace h := h.1 hp207
                    refine xsetB 77 (not_t (decide_eq_false hp207)) rfl ?_
                    refine xskip rfl rfl ?_
                    refine xskip rfl rfl ?_
                    refine xskip rfl rfl ?_
                    refine xskip rfl rfl ?_
                    refine xskip rfl rfl ?_
                    refine xvalP (pv_pick rfl rfl) rfl rfl ?_
                    refine xnil ?_
                    exact xmeet ⟨true, y204.2, i205, h, rfl⟩ ⟨(.cons rfl (.refl _) (.cons rfl (.refl _) (.cons rfl (.refl _) (.nil _)))), by exact (SubM.of (.keep rfl rfl (.refl _) (.keep rfl rfl (.cons (.eq (by first | rfl | simp)) .nil) (.nil _))) (.nil _))⟩
                  · replace h := h.2 hp207
                    refine xsetB 77 (not_f (decide_eq_true (Decidable.of_not_not hp207))) rfl ?_
                    refine xvalP (pv_move rfl) rfl rfl ?_
                    refine xvalP (pv_move rfl) rfl rfl ?_
                    refine xvalP (pv_move rfl) rfl rfl ?_
                    obtain ⟨y209, h208, h⟩ := h
                    refine xcallF (Fb := []) (Ft := [⟨i199, 5, 1, y198.length⟩, ⟨i192, 5, 1, y191.length⟩]) (files_Table_Cut_con y204.2 y85.1 y88 b37 i205 _ h208) Try.func18 (by kernel_rfl) rfl (.cons rfl (.refl _) (.cons rfl (.refl _) (.cons rfl (.refl _) .nil))) (by refine SubM.trans (SubM.mvB 0 rfl) ?_; refine SubM.trans (SubM.mvB 1 rfl) ?_; (simp only [List.eraseIdx]); exact (SubM.of (by repeat (first | with_reducible exact SubB.refl _ | exact SubB.nil _ | refine SubB.keep rfl rfl (by first | with_reducible exact WkL.refl _ | ((repeat (first | exact WkL.nil | refine WkL.cons (by first | with_reducible exact Wk.refl _ | exact Wk.nil_own _ | exact Wk.nil_pl _ | with_reducible exact Wk.tok _ _ _ | exact Wk.tok _ _ _ | exact Wk.eq (by first | rfl | (simp []; done) | (simp []; omega))) ?_)); done) | exact WkL.refl _) ?_ | refine SubB.drop ?_)) (by repeat (first | exact SubT.nil _ | refine SubT.add ?_ | (refine SubT.keep ?_ ?_; focus (first | with_reducible rfl | (simp []; done))) | refine SubT.drop ?_)))) rfl rfl ?_
                    rintro _ _ _ ⟨i210, rfl, rfl, rfl⟩
                    simp only [List.nil_append, List.cons_append]
                    refine xvalP (pv_bin2 rfl rfl rfl) rfl rfl ?_
                    refine xvalP (pv_pick rfl rfl) rfl rfl ?_
                    refine xnil ?_
                    exact xmeet ⟨(!(decide (y209.1 = 0))), y209.2, i210, h, rfl⟩ ⟨(.cons rfl (.refl _) (.cons rfl (.refl _) (.cons rfl (.refl _) (.nil _)))), by exact (SubM.of (.keep rfl rfl (.refl _) (.keep rfl rfl (.cons (.eq (by first | rfl | simp)) .nil) (.nil _))) (.nil _))⟩
            · clear h
              rintro _ ⟨x180, l181, i182, h, rfl⟩
              by_cases hp212 : x180 = true
              · replace h := h.1 hp212
                refine xcondT' hp212 rfl ?_
                refine xseq ?_
                refine xregion ?_
                refine xvalP (pv_assign rfl) rfl rfl ?_
                refine xnil ?_
                refine xthen ?_
                refine xretc ?_
                refine xthen_ret ?_
                replace h := h.symm
                subst h
                exact xret1 (bx' := []) (tk' := []) hg rfl rfl (.refl _) (SubM.of (.nil _) (.nil _)) ⟨rfl, rfl, rfl⟩
              · replace h := h.2 hp212
                refine xcondF' (b_f hp212) rfl ?_
                refine xskipc ?_
                refine xthen ?_
                refine xseq ?_
                refine xregion ?_
                refine xvalP (pv_move rfl) rfl rfl ?_
                obtain ⟨y222, h221, h⟩ := h
                refine xcallF (Fb := []) (Ft := []) (files_Table_All_con l181 b37 i182 _ h221) Try.func13 (by kernel_rfl) rfl (.cons rfl (.refl _) .nil) (by refine SubM.trans (SubM.mvB 0 rfl) ?_; refine SubM.trans (SubM.mvB 1 rfl) ?_; (simp only [List.eraseIdx]); exact (SubM.of (by repeat (first | with_reducible exact SubB.refl _ | exact SubB.nil _ | refine SubB.keep rfl rfl (by first | with_reducible exact WkL.refl _ | ((repeat (first | exact WkL.nil | refine WkL.cons (by first | with_reducible exact Wk.refl _ | exact Wk.nil_own _ | exact Wk.nil_pl _ | with_reducible exact Wk.tok _ _ _ | exact Wk.tok _ _ _ | exact Wk.eq (by first | rfl | (simp []; done) | (simp []; omega))) ?_)); done) | exact WkL.refl _) ?_ | refine SubB.drop ?_)) (by repeat (first | exact SubT.nil _ | refine SubT.add ?_ | (refine SubT.keep ?_ ?_; focus (first | with_reducible rfl | (simp []; done))) | refine SubT.drop ?_)))) rfl rfl ?_
                rintro _ _ _ ⟨i223, rfl, rfl, rfl⟩
                simp only [List.nil_append, List.cons_append]
                refine xvalP (pv_move rfl) rfl rfl ?_
                obtain ⟨y225, h224, h⟩ := h
                refine xcall0 (palinoderef03_Same_con y222 x1 _ h224) Try.func19 (by kernel_rfl) rfl (.cons rfl (.tok _ _ _) (.cons rfl (.refl _) .nil)) rfl rfl ?_
                refine xvalP (pv_move rfl) rfl rfl ?_
                by_cases hp226 : y225 = true
                · replace h := h.1 hp226
                  refine xsetB 88 hp226 rfl ?_
                  obtain ⟨y228, h227, h⟩ := h
                  refine xcall0 (palinodelaw03_awake_con _ h227) Try.func7 (by kernel_rfl) rfl .nil rfl rfl ?_
                  refine xvalP (pv_pick rfl rfl) rfl rfl ?_
                  refine xvalP (pv_assign rfl) rfl rfl ?_
                  refine xnil ?_
                  refine xthen ?_
                  refine xretc ?_
                  replace h := h.symm
                  subst h
                  exact xret1 (bx' := []) (tk' := []) hg rfl rfl (.refl _) (SubM.of (.nil _) (.nil _)) ⟨rfl, rfl, rfl⟩
                · replace h := h.2 hp226
                  refine xsetB 88 (b_f hp226) rfl ?_
                  refine xskip rfl rfl ?_
                  refine xvalP (pv_pick rfl rfl) rfl rfl ?_
                  refine xvalP (pv_assign rfl) rfl rfl ?_
                  refine xnil ?_
                  refine xthen ?_
                  refine xretc ?_
                  replace h := h.symm
                  subst h
                  exact xret1 (bx' := []) (tk' := []) hg rfl rfl (.refl _) (SubM.of (.nil _) (.nil _)) ⟨rfl, rfl, rfl⟩
end Go.Proofs.Ytljlaggehilpfaa
