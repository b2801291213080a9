/- What functions' texts ask for, and the walks that show it (printed by a program). -/
import Derived.Test.YtfngfgiikpofgaaExt
namespace Go.Proofs.Ytfngfgiikpofgaa
/-- slices.Clone [ []byte,byte] -/
def slices_Clone_R (s1 : List UInt8) (r : (List UInt8)) : Prop :=
  ∀ b6 : Bool, (s1 ≠ [] → b6 = false) → ((b6 = true → r = ([] : List UInt8)) ∧ (¬ (b6 = true) → Room ((([] : List UInt8)).length + s1.length) 1 ∧ r = (([] : List UInt8) ++ s1)))
set_option maxHeartbeats 4000000 in
theorem slices_Clone_con (s1 : List UInt8) (r : (List UInt8)) (h : slices_Clone_R s1 r) : Con Try.prog 23 [.sl 1 none (List.map eb s1)] [] [] (RetM 1 5 eb r) := by
  refine xenter Try.func23 rfl rfl fun g hg => ?_
  simp only [Try.ntmps23, slots]
  refine xseq ?_
  refine xregion ?_
  refine xvalP (pv_assign rfl) rfl rfl ?_
  refine xnil ?_
  refine xthen ?_
  refine xseq ?_
  refine xseq ?_
  refine xregion ?_
  refine xvalP (pv_move rfl) rfl rfl ?_
  refine xexact 3 rfl fun A5 c5 hA5 => ?_
  refine xvalP (pv_eqNilV UndC.h rfl rfl) rfl rfl ?_
  obtain ⟨b6, hb5⟩ : ∃ b : Bool, A5.isNone = b := ⟨_, rfl⟩
  replace h := h b6 (fun q => hb5 ▸ hA5 q)
  refine xsetB 4 (b' := b6) (by rw [hb5]) rfl ?_
  refine xnil ?_
  refine xthen ?_
  by_cases hp7 : b6 = true
  · replace h := h.1 hp7
    refine xcondT' hp7 rfl ?_
    refine xseq ?_
    refine xregion ?_
    refine xvalP (pv_assign rfl) rfl rfl ?_
    refine xnil ?_
    refine xthen ?_
    refine xretc ?_
    refine xthen_ret ?_
    replace h := h.symm
    subst h
    exact xret1 hg rfl rfl (.nil_own _) (SubM.of (by repeat (first | with_reducible exact SubB.refl _ | exact SubB.nil _ | refine SubB.keep rfl rfl (by first | with_reducible exact WkL.refl _ | ((repeat (first | exact WkL.nil | refine WkL.cons (by first | with_reducible exact Wk.refl _ | exact Wk.nil_own _ | exact Wk.nil_pl _ | with_reducible exact Wk.tok _ _ _ | exact Wk.tok _ _ _ | exact Wk.eq (by first | rfl | (simp []; done) | (simp []; omega))) ?_)); done) | exact WkL.refl _) ?_ | refine SubB.drop ?_)) (by repeat (first | exact SubT.nil _ | refine SubT.add ?_ | (refine SubT.keep ?_ ?_; focus (first | with_reducible rfl | (simp []; done))) | refine SubT.drop ?_))) ⟨none, rfl, rfl, rfl⟩
  · replace h := h.2 hp7
    refine xcondF' (b_f hp7) rfl ?_
    refine xskipc ?_
    refine xthen ?_
    refine xseq ?_
    refine xregion ?_
    refine xbuildSliceM (f := eb) ([] : List UInt8) UndC.h InfC.h rfl rfl (by first | exact wkR_of rfl | (repeat (first | exact WkR.nil | refine WkR.cons (by (repeat (first | exact WkL.nil | refine WkL.cons (by first | with_reducible exact Wk.refl _ | exact Wk.nil_own _ | exact Wk.nil_pl _ | with_reducible exact Wk.tok _ _ _ | exact Wk.tok _ _ _ | exact Wk.eq (by first | rfl | (simp []; done) | (simp []; omega))) ?_))) ?_))) rfl rfl rfl rfl fun s5 => ?_
    refine xvalP (pv_move rfl) rfl rfl ?_
    obtain ⟨h8, h⟩ := h
    refine xappendM (l := ([] : List UInt8)) (l2 := s1) 0 h8 UndC.h InfC.h rfl rfl rfl (.refl _) rfl rfl rfl fun i9 => ?_
    refine xvalP (pv_assign rfl) rfl rfl ?_
    refine xnil ?_
    refine xthen ?_
    refine xretc ?_
    replace h := h.symm
    subst h
    exact xret1 hg rfl rfl (.refl _) (SubM.of (.nil _) (.keep rfl (.nil _))) ⟨i9, rfl, rfl, rfl⟩
/-- scan.Open -/
def scan_Open_R (b1 : List UInt8) (r : ((List UInt8) × Int)) : Prop :=
  ∃ y3 : (List UInt8), slices_Clone_R b1 y3 ∧ r = (y3, 0)
set_option maxHeartbeats 4000000 in
theorem scan_Open_con (b1 : List UInt8) (r : ((List UInt8) × Int)) (h : scan_Open_R b1 r) : Con Try.prog 7 [.sl 1 none (List.map eb b1)] [] [] (fun rr bx tk => ∃ b6 : Nat, ∃ j1, rr = .v (.pointer (some ⟨b6, 0, none⟩)) ∧ bx = [⟨b6, 45, [.sl 1 (some j1) (List.map eb r.1), .v (.int .i64 r.2)]⟩] ∧ tk = [⟨j1, 5, 1, r.1.length⟩]) := by
  refine xenter Try.func7 rfl rfl fun g hg => ?_
  simp only [Try.ntmps7, slots]
  refine xseq ?_
  refine xregion ?_
  refine xvalP (pv_assign rfl) rfl rfl ?_
  refine xnil ?_
  refine xthen ?_
  refine xseq ?_
  refine xregion ?_
  refine xvalP (pv_move rfl) rfl rfl ?_
  obtain ⟨y3, h2, h⟩ := h
  refine xcallM (slices_Clone_con b1 _ h2) Try.func23 (by kernel_rfl) rfl (.cons rfl (.refl _) .nil) rfl rfl fun i4 => ?_
  refine xvalP (pv_buildC StrC.h rfl rfl) rfl rfl ?_
  refine xbox rfl rfl rfl rfl fun b6 => ?_
  refine xvalP (pv_assign rfl) rfl rfl ?_
  refine xnil ?_
  refine xthen ?_
  refine xretc ?_
  replace h := h.symm
  subst h
  exact xret1 hg rfl rfl (.refl _) (SubM.of (.keep rfl rfl (.refl _) (.nil _)) (.keep rfl (.nil _))) ⟨b6, i4, rfl, rfl, rfl⟩
/-- digit.within -/
def digit_within_R (c1 : UInt8) (low2 : UInt8) (high3 : UInt8) (r : Bool) : Prop :=
  (((low2.toNat : Int) ≤ (c1.toNat : Int) → r = (decide ((c1.toNat : Int) ≤ (high3.toNat : Int)))) ∧ (¬ ((low2.toNat : Int) ≤ (c1.toNat : Int)) → r = false))
set_option maxHeartbeats 4000000 in
theorem digit_within_con (c1 : UInt8) (low2 : UInt8) (high3 : UInt8) (r : Bool) (h : digit_within_R c1 low2 high3 r) : Con Try.prog 38 [.v (.int .u8 ((c1.toNat : Int))), .v (.int .u8 ((low2.toNat : Int))), .v (.int .u8 ((high3.toNat : Int)))] [] [] (Ret (.v (.bool r))) := by
  refine xenter Try.func38 rfl rfl fun g hg => ?_
  simp only [Try.ntmps38, slots]
  refine xseq ?_
  refine xregion ?_
  refine xvalP (pv_assign rfl) rfl rfl ?_
  refine xnil ?_
  refine xthen ?_
  refine xseq ?_
  refine xregion ?_
  refine xvalP (pv_move rfl) rfl rfl ?_
  refine xvalP (pv_move rfl) rfl rfl ?_
  refine xvalP (pv_bin2 rfl rfl rfl) rfl rfl ?_
  refine xvalP (pv_move rfl) rfl rfl ?_
  by_cases hp8 : (low2.toNat : Int) ≤ (c1.toNat : Int)
  · replace h := h.1 hp8
    refine xsetB 10 (decide_eq_true hp8) rfl ?_
    refine xvalP (pv_move rfl) rfl rfl ?_
    refine xvalP (pv_move rfl) rfl rfl ?_
    refine xvalP (pv_bin2 rfl rfl rfl) rfl rfl ?_
    refine xvalP (pv_pick rfl rfl) rfl rfl ?_
    refine xvalP (pv_assign rfl) rfl rfl ?_
    refine xnil ?_
    refine xthen ?_
    refine xretc ?_
    replace h := h.symm
    subst h
    exact xret1 hg rfl rfl (.refl _) (SubM.of (.nil _) (.nil _)) ⟨rfl, rfl, rfl⟩
  · replace h := h.2 hp8
    refine xsetB 10 (decide_eq_false hp8) rfl ?_
    refine xskip rfl rfl ?_
    refine xskip rfl rfl ?_
    refine xskip rfl rfl ?_
    refine xvalP (pv_pick rfl rfl) rfl rfl ?_
    refine xvalP (pv_assign rfl) rfl rfl ?_
    refine xnil ?_
    refine xthen ?_
    refine xretc ?_
    replace h := h.symm
    subst h
    exact xret1 hg rfl rfl (.refl _) (SubM.of (.nil _) (.nil _)) ⟨rfl, rfl, rfl⟩
/-- digit.isUpper -/
def digit_isUpper_R (c1 : UInt8) (r : Bool) : Prop :=
  ∃ y3 : Bool, digit_within_R c1 (65 : UInt8) (90 : UInt8) y3 ∧ r = y3
set_option maxHeartbeats 4000000 in
theorem digit_isUpper_con (c1 : UInt8) (r : Bool) (h : digit_isUpper_R c1 r) : Con Try.prog 33 [.v (.int .u8 ((c1.toNat : Int)))] [] [] (Ret (.v (.bool r))) := by
  refine xenter Try.func33 rfl rfl fun g hg => ?_
  simp only [Try.ntmps33, slots]
  refine xseq ?_
  refine xregion ?_
  refine xvalP (pv_assign rfl) rfl rfl ?_
  refine xnil ?_
  refine xthen ?_
  refine xseq ?_
  refine xregion ?_
  refine xvalP (pv_move rfl) rfl rfl ?_
  obtain ⟨y3, h2, h⟩ := h
  refine xcall0 (digit_within_con c1 (65 : UInt8) (90 : UInt8) _ h2) Try.func38 (by kernel_rfl) rfl (.cons rfl (.refl _) (.cons rfl (.refl _) (.cons rfl (.refl _) .nil))) rfl rfl ?_
  refine xvalP (pv_assign rfl) rfl rfl ?_
  refine xnil ?_
  refine xthen ?_
  refine xretc ?_
  replace h := h.symm
  subst h
  exact xret1 hg rfl rfl (.refl _) (SubM.of (.nil _) (.nil _)) ⟨rfl, rfl, rfl⟩
/-- digit.isLower -/
def digit_isLower_R (c1 : UInt8) (r : Bool) : Prop :=
  ∃ y3 : Bool, digit_within_R c1 (97 : UInt8) (122 : UInt8) y3 ∧ r = y3
set_option maxHeartbeats 4000000 in
theorem digit_isLower_con (c1 : UInt8) (r : Bool) (h : digit_isLower_R c1 r) : Con Try.prog 34 [.v (.int .u8 ((c1.toNat : Int)))] [] [] (Ret (.v (.bool r))) := by
  refine xenter Try.func34 rfl rfl fun g hg => ?_
  simp only [Try.ntmps34, slots]
  refine xseq ?_
  refine xregion ?_
  refine xvalP (pv_assign rfl) rfl rfl ?_
  refine xnil ?_
  refine xthen ?_
  refine xseq ?_
  refine xregion ?_
  refine xvalP (pv_move rfl) rfl rfl ?_
  obtain ⟨y3, h2, h⟩ := h
  refine xcall0 (digit_within_con c1 (97 : UInt8) (122 : UInt8) _ h2) Try.func38 (by kernel_rfl) rfl (.cons rfl (.refl _) (.cons rfl (.refl _) (.cons rfl (.refl _) .nil))) rfl rfl ?_
  refine xvalP (pv_assign rfl) rfl rfl ?_
  refine xnil ?_
  refine xthen ?_
  refine xretc ?_
  replace h := h.symm
  subst h
  exact xret1 hg rfl rfl (.refl _) (SubM.of (.nil _) (.nil _)) ⟨rfl, rfl, rfl⟩
/-- digit.isDigit -/
def digit_isDigit_R (c1 : UInt8) (r : Bool) : Prop :=
  ∃ y3 : Bool, digit_within_R c1 (48 : UInt8) (57 : UInt8) y3 ∧ r = y3
set_option maxHeartbeats 4000000 in
theorem digit_isDigit_con (c1 : UInt8) (r : Bool) (h : digit_isDigit_R c1 r) : Con Try.prog 35 [.v (.int .u8 ((c1.toNat : Int)))] [] [] (Ret (.v (.bool r))) := by
  refine xenter Try.func35 rfl rfl fun g hg => ?_
  simp only [Try.ntmps35, slots]
  refine xseq ?_
  refine xregion ?_
  refine xvalP (pv_assign rfl) rfl rfl ?_
  refine xnil ?_
  refine xthen ?_
  refine xseq ?_
  refine xregion ?_
  refine xvalP (pv_move rfl) rfl rfl ?_
  obtain ⟨y3, h2, h⟩ := h
  refine xcall0 (digit_within_con c1 (48 : UInt8) (57 : UInt8) _ h2) Try.func38 (by kernel_rfl) rfl (.cons rfl (.refl _) (.cons rfl (.refl _) (.cons rfl (.refl _) .nil))) rfl rfl ?_
  refine xvalP (pv_assign rfl) rfl rfl ?_
  refine xnil ?_
  refine xthen ?_
  refine xretc ?_
  replace h := h.symm
  subst h
  exact xret1 hg rfl rfl (.refl _) (SubM.of (.nil _) (.nil _)) ⟨rfl, rfl, rfl⟩
/-- digit.isAlnum -/
def digit_isAlnum_R (c1 : UInt8) (r : Bool) : Prop :=
  ∃ y11 : Bool, digit_isDigit_R c1 y11 ∧ ((y11 = true → r = true) ∧ (¬ (y11 = true) → ∃ y14 : Bool, digit_isUpper_R c1 y14 ∧ ((y14 = true → r = true) ∧ (¬ (y14 = true) → ∃ y17 : Bool, digit_isLower_R c1 y17 ∧ r = y17))))
set_option maxHeartbeats 4000000 in
theorem digit_isAlnum_con (c1 : UInt8) (r : Bool) (h : digit_isAlnum_R c1 r) : Con Try.prog 36 [.v (.int .u8 ((c1.toNat : Int)))] [] [] (Ret (.v (.bool r))) := by
  refine xenter Try.func36 rfl rfl fun g hg => ?_
  simp only [Try.ntmps36, slots]
  refine xseq ?_
  refine xregion ?_
  refine xvalP (pv_assign rfl) rfl rfl ?_
  refine xnil ?_
  refine xthen ?_
  refine xseq ?_
  refine xregion ?_
  refine xvalP (pv_move rfl) rfl rfl ?_
  obtain ⟨y11, h10, h⟩ := h
  refine xcall0 (digit_isDigit_con c1 _ h10) Try.func35 (by kernel_rfl) rfl (.cons rfl (.refl _) .nil) rfl rfl ?_
  refine xvalP (pv_move rfl) rfl rfl ?_
  by_cases hp12 : y11 = true
  · replace h := h.1 hp12
    refine xsetB 5 hp12 rfl ?_
    refine xskip rfl rfl ?_
    refine xskip rfl rfl ?_
    refine xvalP (pv_pick rfl rfl) rfl rfl ?_
    refine xvalP (pv_move rfl) rfl rfl ?_
    refine xskip rfl rfl ?_
    refine xskip rfl rfl ?_
    refine xvalP (pv_pick rfl rfl) rfl rfl ?_
    refine xvalP (pv_assign rfl) rfl rfl ?_
    refine xnil ?_
    refine xthen ?_
    refine xretc ?_
    replace h := h.symm
    subst h
    exact xret1 hg rfl rfl (.refl _) (SubM.of (.nil _) (.nil _)) ⟨rfl, rfl, rfl⟩
  · replace h := h.2 hp12
    refine xsetB 5 (b_f hp12) rfl ?_
    refine xvalP (pv_move rfl) rfl rfl ?_
    obtain ⟨y14, h13, h⟩ := h
    refine xcall0 (digit_isUpper_con c1 _ h13) Try.func33 (by kernel_rfl) rfl (.cons rfl (.refl _) .nil) rfl rfl ?_
    refine xvalP (pv_pick rfl rfl) rfl rfl ?_
    refine xvalP (pv_move rfl) rfl rfl ?_
    by_cases hp15 : y14 = true
    · replace h := h.1 hp15
      refine xsetB 9 hp15 rfl ?_
      refine xskip rfl rfl ?_
      refine xskip rfl rfl ?_
      refine xvalP (pv_pick rfl rfl) rfl rfl ?_
      refine xvalP (pv_assign rfl) rfl rfl ?_
      refine xnil ?_
      refine xthen ?_
      refine xretc ?_
      replace h := h.symm
      subst h
      exact xret1 hg rfl rfl (.refl _) (SubM.of (.nil _) (.nil _)) ⟨rfl, rfl, rfl⟩
    · replace h := h.2 hp15
      refine xsetB 9 (b_f hp15) rfl ?_
      refine xvalP (pv_move rfl) rfl rfl ?_
      obtain ⟨y17, h16, h⟩ := h
      refine xcall0 (digit_isLower_con c1 _ h16) Try.func34 (by kernel_rfl) rfl (.cons rfl (.refl _) .nil) rfl rfl ?_
      refine xvalP (pv_pick rfl rfl) rfl rfl ?_
      refine xvalP (pv_assign rfl) rfl rfl ?_
      refine xnil ?_
      refine xthen ?_
      refine xretc ?_
      replace h := h.symm
      subst h
      exact xret1 hg rfl rfl (.refl _) (SubM.of (.nil _) (.nil _)) ⟨rfl, rfl, rfl⟩
/-- digit.isBlank -/
def digit_isBlank_R (c1 : UInt8) (r : Bool) : Prop :=
  (((c1.toNat : Int) = 32 → r = true) ∧ (¬ ((c1.toNat : Int) = 32) → r = (decide ((c1.toNat : Int) = 9))))
set_option maxHeartbeats 4000000 in
theorem digit_isBlank_con (c1 : UInt8) (r : Bool) (h : digit_isBlank_R c1 r) : Con Try.prog 37 [.v (.int .u8 ((c1.toNat : Int)))] [] [] (Ret (.v (.bool r))) := by
  refine xenter Try.func37 rfl rfl fun g hg => ?_
  simp only [Try.ntmps37, slots]
  refine xseq ?_
  refine xregion ?_
  refine xvalP (pv_assign rfl) rfl rfl ?_
  refine xnil ?_
  refine xthen ?_
  refine xseq ?_
  refine xregion ?_
  refine xvalP (pv_move rfl) rfl rfl ?_
  refine xvalP (pv_bin2 rfl rfl rfl) rfl rfl ?_
  refine xvalP (pv_move rfl) rfl rfl ?_
  by_cases hp6 : (c1.toNat : Int) = 32
  · replace h := h.1 hp6
    refine xsetB 5 (decide_eq_true hp6) rfl ?_
    refine xskip rfl rfl ?_
    refine xskip rfl rfl ?_
    refine xvalP (pv_pick rfl rfl) rfl rfl ?_
    refine xvalP (pv_assign rfl) rfl rfl ?_
    refine xnil ?_
    refine xthen ?_
    refine xretc ?_
    replace h := h.symm
    subst h
    exact xret1 hg rfl rfl (.refl _) (SubM.of (.nil _) (.nil _)) ⟨rfl, rfl, rfl⟩
  · replace h := h.2 hp6
    refine xsetB 5 (decide_eq_false hp6) rfl ?_
    refine xvalP (pv_move rfl) rfl rfl ?_
    refine xvalP (pv_bin2 rfl rfl rfl) rfl rfl ?_
    refine xvalP (pv_pick rfl rfl) rfl rfl ?_
    refine xvalP (pv_assign rfl) rfl rfl ?_
    refine xnil ?_
    refine xthen ?_
    refine xretc ?_
    replace h := h.symm
    subst h
    exact xret1 hg rfl rfl (.refl _) (SubM.of (.nil _) (.nil _)) ⟨rfl, rfl, rfl⟩
/-- digit.isGraph -/
def digit_isGraph_R (c1 : UInt8) (r : Bool) : Prop :=
  ∃ y3 : Bool, digit_within_R c1 (33 : UInt8) (126 : UInt8) y3 ∧ r = y3
set_option maxHeartbeats 4000000 in
theorem digit_isGraph_con (c1 : UInt8) (r : Bool) (h : digit_isGraph_R c1 r) : Con Try.prog 39 [.v (.int .u8 ((c1.toNat : Int)))] [] [] (Ret (.v (.bool r))) := by
  refine xenter Try.func39 rfl rfl fun g hg => ?_
  simp only [Try.ntmps39, slots]
  refine xseq ?_
  refine xregion ?_
  refine xvalP (pv_assign rfl) rfl rfl ?_
  refine xnil ?_
  refine xthen ?_
  refine xseq ?_
  refine xregion ?_
  refine xvalP (pv_move rfl) rfl rfl ?_
  obtain ⟨y3, h2, h⟩ := h
  refine xcall0 (digit_within_con c1 (33 : UInt8) (126 : UInt8) _ h2) Try.func38 (by kernel_rfl) rfl (.cons rfl (.refl _) (.cons rfl (.refl _) (.cons rfl (.refl _) .nil))) rfl rfl ?_
  refine xvalP (pv_assign rfl) rfl rfl ?_
  refine xnil ?_
  refine xthen ?_
  refine xretc ?_
  replace h := h.symm
  subst h
  exact xret1 hg rfl rfl (.refl _) (SubM.of (.nil _) (.nil _)) ⟨rfl, rfl, rfl⟩
/-- digit.Is -/
def digit_Is_R (x1 : ByteArray) (x2 : UInt8) (r : Bool × Bool) : Prop :=
  (((x1.toList == ((⟨#[117, 112, 112, 101, 114]⟩ : ByteArray)).toList) = true → ∃ y102 : Bool, digit_isUpper_R x2 y102 ∧ r = (y102, true)) ∧ (¬ ((x1.toList == ((⟨#[117, 112, 112, 101, 114]⟩ : ByteArray)).toList) = true) → (((x1.toList == ((⟨#[108, 111, 119, 101, 114]⟩ : ByteArray)).toList) = true → ∃ y106 : Bool, digit_isLower_R x2 y106 ∧ r = (y106, true)) ∧ (¬ ((x1.toList == ((⟨#[108, 111, 119, 101, 114]⟩ : ByteArray)).toList) = true) → (((x1.toList == ((⟨#[100, 105, 103, 105, 116]⟩ : ByteArray)).toList) = true → ∃ y110 : Bool, digit_isDigit_R x2 y110 ∧ r = (y110, true)) ∧ (¬ ((x1.toList == ((⟨#[100, 105, 103, 105, 116]⟩ : ByteArray)).toList) = true) → (((x1.toList == ((⟨#[97, 108, 112, 104, 97]⟩ : ByteArray)).toList) = true → ∃ y119 : Bool, digit_isUpper_R x2 y119 ∧ ((y119 = true → r = (true, true)) ∧ (¬ (y119 = true) → ∃ y122 : Bool, digit_isLower_R x2 y122 ∧ r = (y122, true)))) ∧ (¬ ((x1.toList == ((⟨#[97, 108, 112, 104, 97]⟩ : ByteArray)).toList) = true) → (((x1.toList == ((⟨#[97, 108, 110, 117, 109]⟩ : ByteArray)).toList) = true → ∃ y126 : Bool, digit_isAlnum_R x2 y126 ∧ r = (y126, true)) ∧ (¬ ((x1.toList == ((⟨#[97, 108, 110, 117, 109]⟩ : ByteArray)).toList) = true) → (((x1.toList == ((⟨#[98, 108, 97, 110, 107]⟩ : ByteArray)).toList) = true → ∃ y130 : Bool, digit_isBlank_R x2 y130 ∧ r = (y130, true)) ∧ (¬ ((x1.toList == ((⟨#[98, 108, 97, 110, 107]⟩ : ByteArray)).toList) = true) → (((x1.toList == ((⟨#[115, 112, 97, 99, 101]⟩ : ByteArray)).toList) = true → ∃ y139 : Bool, digit_isBlank_R x2 y139 ∧ ((y139 = true → r = (true, true)) ∧ (¬ (y139 = true) → ∃ y142 : Bool, digit_within_R x2 (10 : UInt8) (13 : UInt8) y142 ∧ r = (y142, true)))) ∧ (¬ ((x1.toList == ((⟨#[115, 112, 97, 99, 101]⟩ : ByteArray)).toList) = true) → (((x1.toList == ((⟨#[99, 110, 116, 114, 108]⟩ : ByteArray)).toList) = true → (((x2.toNat : Int) < 32 → r = (true, true)) ∧ (¬ ((x2.toNat : Int) < 32) → r = ((decide ((x2.toNat : Int) = 127)), true)))) ∧ (¬ ((x1.toList == ((⟨#[99, 110, 116, 114, 108]⟩ : ByteArray)).toList) = true) → (((x1.toList == ((⟨#[103, 114, 97, 112, 104]⟩ : ByteArray)).toList) = true → ∃ y154 : Bool, digit_isGraph_R x2 y154 ∧ r = (y154, true)) ∧ (¬ ((x1.toList == ((⟨#[103, 114, 97, 112, 104]⟩ : ByteArray)).toList) = true) → (((x1.toList == ((⟨#[112, 114, 105, 110, 116]⟩ : ByteArray)).toList) = true → ∃ y162 : Bool, digit_isGraph_R x2 y162 ∧ ((y162 = true → r = (true, true)) ∧ (¬ (y162 = true) → r = ((decide ((x2.toNat : Int) = 32)), true)))) ∧ (¬ ((x1.toList == ((⟨#[112, 114, 105, 110, 116]⟩ : ByteArray)).toList) = true) → (((x1.toList == ((⟨#[112, 117, 110, 99, 116]⟩ : ByteArray)).toList) = true → ∃ y173 : Bool, digit_isGraph_R x2 y173 ∧ ((y173 = true → ∃ y176 : Bool, digit_isAlnum_R x2 y176 ∧ r = ((!y176), true)) ∧ (¬ (y173 = true) → r = (false, true)))) ∧ (¬ ((x1.toList == ((⟨#[112, 117, 110, 99, 116]⟩ : ByteArray)).toList) = true) → (((x1.toList == ((⟨#[120, 100, 105, 103, 105, 116]⟩ : ByteArray)).toList) = true → ∃ y188 : Bool, digit_isDigit_R x2 y188 ∧ ((y188 = true → r = (true, true)) ∧ (¬ (y188 = true) → ∃ y191 : Bool, digit_within_R x2 (65 : UInt8) (70 : UInt8) y191 ∧ ((y191 = true → r = (true, true)) ∧ (¬ (y191 = true) → ∃ y194 : Bool, digit_within_R x2 (97 : UInt8) (102 : UInt8) y194 ∧ r = (y194, true)))))) ∧ (¬ ((x1.toList == ((⟨#[120, 100, 105, 103, 105, 116]⟩ : ByteArray)).toList) = true) → r = (false, false)))))))))))))))))))))))))
set_option maxHeartbeats 4000000 in
theorem digit_Is_con (x1 : ByteArray) (x2 : UInt8) (r : Bool × Bool) (h : digit_Is_R x1 x2 r) : Con Try.prog 25 [.v (.string x1), .v (.int .u8 ((x2.toNat : Int)))] [] [] (fun rr bx tk => rr = .tup [.v (.bool r.1), .v (.bool r.2)] ∧ bx = [] ∧ tk = []) := by
  refine xenter Try.func25 rfl rfl fun g hg => ?_
  simp only [Try.ntmps25, slots]
  refine xseq ?_
  refine xregion ?_
  refine xvalP (pv_assign rfl) rfl rfl ?_
  refine xvalP (pv_assign rfl) rfl rfl ?_
  refine xnil ?_
  refine xthen ?_
  refine xseq ?_
  refine xseq ?_
  refine xregion ?_
  refine xvalP (pv_move rfl) rfl rfl ?_
  refine xnil ?_
  refine xthen ?_
  refine xblock ?_
  refine xseq ?_
  refine xregion ?_
  refine xvalP (pv_bin2 rfl rfl rfl) rfl rfl ?_
  refine xvalP (pv_assign rfl) rfl rfl ?_
  refine xnil ?_
  refine xthen ?_
  by_cases hp100 : (x1.toList == ((⟨#[117, 112, 112, 101, 114]⟩ : ByteArray)).toList) = true
  · replace h := h.1 hp100
    refine xcondT' hp100 rfl ?_
    refine xseq ?_
    refine xregion ?_
    refine xvalP (pv_move rfl) rfl rfl ?_
    obtain ⟨y102, h101, h⟩ := h
    refine xcall0 (digit_isUpper_con x2 _ h101) Try.func33 (by kernel_rfl) rfl (.cons rfl (.refl _) .nil) rfl rfl ?_
    refine xvalP (pv_assign rfl) rfl rfl ?_
    refine xvalP (pv_assign rfl) rfl rfl ?_
    refine xnil ?_
    refine xthen ?_
    refine xretc ?_
    refine xin_ret ?_
    refine xthen_ret ?_
    replace h := h.symm
    subst h
    exact xret2 hg rfl rfl (.refl _) rfl (.refl _) (SubM.of (.nil _) (.nil _)) ⟨rfl, rfl, rfl⟩
  · replace h := h.2 hp100
    refine xcondF' (b_f hp100) rfl ?_
    refine xseq ?_
    refine xregion ?_
    refine xvalP (pv_bin2 rfl rfl rfl) rfl rfl ?_
    refine xvalP (pv_assign rfl) rfl rfl ?_
    refine xnil ?_
    refine xthen ?_
    by_cases hp104 : (x1.toList == ((⟨#[108, 111, 119, 101, 114]⟩ : ByteArray)).toList) = true
    · replace h := h.1 hp104
      refine xcondT' hp104 rfl ?_
      refine xseq ?_
      refine xregion ?_
      refine xvalP (pv_move rfl) rfl rfl ?_
      obtain ⟨y106, h105, h⟩ := h
      refine xcall0 (digit_isLower_con x2 _ h105) Try.func34 (by kernel_rfl) rfl (.cons rfl (.refl _) .nil) rfl rfl ?_
      refine xvalP (pv_assign rfl) rfl rfl ?_
      refine xvalP (pv_assign rfl) rfl rfl ?_
      refine xnil ?_
      refine xthen ?_
      refine xretc ?_
      refine xin_ret ?_
      refine xthen_ret ?_
      replace h := h.symm
      subst h
      exact xret2 hg rfl rfl (.refl _) rfl (.refl _) (SubM.of (.nil _) (.nil _)) ⟨rfl, rfl, rfl⟩
    · replace h := h.2 hp104
      refine xcondF' (b_f hp104) rfl ?_
      refine xseq ?_
      refine xregion ?_
      refine xvalP (pv_bin2 rfl rfl rfl) rfl rfl ?_
      refine xvalP (pv_assign rfl) rfl rfl ?_
      refine xnil ?_
      refine xthen ?_
      by_cases hp108 : (x1.toList == ((⟨#[100, 105, 103, 105, 116]⟩ : ByteArray)).toList) = true
      · replace h := h.1 hp108
        refine xcondT' hp108 rfl ?_
        refine xseq ?_
        refine xregion ?_
        refine xvalP (pv_move rfl) rfl rfl ?_
        obtain ⟨y110, h109, h⟩ := h
        refine xcall0 (digit_isDigit_con x2 _ h109) Try.func35 (by kernel_rfl) rfl (.cons rfl (.refl _) .nil) rfl rfl ?_
        refine xvalP (pv_assign rfl) rfl rfl ?_
        refine xvalP (pv_assign rfl) rfl rfl ?_
        refine xnil ?_
        refine xthen ?_
        refine xretc ?_
        refine xin_ret ?_
        refine xthen_ret ?_
        replace h := h.symm
        subst h
        exact xret2 hg rfl rfl (.refl _) rfl (.refl _) (SubM.of (.nil _) (.nil _)) ⟨rfl, rfl, rfl⟩
      · replace h := h.2 hp108
        refine xcondF' (b_f hp108) rfl ?_
        refine xseq ?_
        refine xregion ?_
        refine xvalP (pv_bin2 rfl rfl rfl) rfl rfl ?_
        refine xvalP (pv_assign rfl) rfl rfl ?_
        refine xnil ?_
        refine xthen ?_
        by_cases hp112 : (x1.toList == ((⟨#[97, 108, 112, 104, 97]⟩ : ByteArray)).toList) = true
        · replace h := h.1 hp112
          refine xcondT' hp112 rfl ?_
          refine xseq ?_
          refine xregion ?_
          refine xvalP (pv_move rfl) rfl rfl ?_
          obtain ⟨y119, h118, h⟩ := h
          refine xcall0 (digit_isUpper_con x2 _ h118) Try.func33 (by kernel_rfl) rfl (.cons rfl (.refl _) .nil) rfl rfl ?_
          refine xvalP (pv_move rfl) rfl rfl ?_
          by_cases hp120 : y119 = true
          · replace h := h.1 hp120
            refine xsetB 23 hp120 rfl ?_
            refine xskip rfl rfl ?_
            refine xskip rfl rfl ?_
            refine xvalP (pv_pick rfl rfl) rfl rfl ?_
            refine xvalP (pv_assign rfl) rfl rfl ?_
            refine xvalP (pv_assign rfl) rfl rfl ?_
            refine xnil ?_
            refine xthen ?_
            refine xretc ?_
            refine xin_ret ?_
            refine xthen_ret ?_
            replace h := h.symm
            subst h
            exact xret2 hg rfl rfl (.refl _) rfl (.refl _) (SubM.of (.nil _) (.nil _)) ⟨rfl, rfl, rfl⟩
          · replace h := h.2 hp120
            refine xsetB 23 (b_f hp120) rfl ?_
            refine xvalP (pv_move rfl) rfl rfl ?_
            obtain ⟨y122, h121, h⟩ := h
            refine xcall0 (digit_isLower_con x2 _ h121) Try.func34 (by kernel_rfl) rfl (.cons rfl (.refl _) .nil) rfl rfl ?_
            refine xvalP (pv_pick rfl rfl) rfl rfl ?_
            refine xvalP (pv_assign rfl) rfl rfl ?_
            refine xvalP (pv_assign rfl) rfl rfl ?_
            refine xnil ?_
            refine xthen ?_
            refine xretc ?_
            refine xin_ret ?_
            refine xthen_ret ?_
            replace h := h.symm
            subst h
            exact xret2 hg rfl rfl (.refl _) rfl (.refl _) (SubM.of (.nil _) (.nil _)) ⟨rfl, rfl, rfl⟩
        · replace h := h.2 hp112
          refine xcondF' (b_f hp112) rfl ?_
          refine xseq ?_
          refine xregion ?_
          refine xvalP (pv_bin2 rfl rfl rfl) rfl rfl ?_
          refine xvalP (pv_assign rfl) rfl rfl ?_
          refine xnil ?_
          refine xthen ?_
          by_cases hp124 : (x1.toList == ((⟨#[97, 108, 110, 117, 109]⟩ : ByteArray)).toList) = true
          · replace h := h.1 hp124
            refine xcondT' hp124 rfl ?_
            refine xseq ?_
            refine xregion ?_
            refine xvalP (pv_move rfl) rfl rfl ?_
            obtain ⟨y126, h125, h⟩ := h
            refine xcall0 (digit_isAlnum_con x2 _ h125) Try.func36 (by kernel_rfl) rfl (.cons rfl (.refl _) .nil) rfl rfl ?_
            refine xvalP (pv_assign rfl) rfl rfl ?_
            refine xvalP (pv_assign rfl) rfl rfl ?_
            refine xnil ?_
            refine xthen ?_
            refine xretc ?_
            refine xin_ret ?_
            refine xthen_ret ?_
            replace h := h.symm
            subst h
            exact xret2 hg rfl rfl (.refl _) rfl (.refl _) (SubM.of (.nil _) (.nil _)) ⟨rfl, rfl, rfl⟩
          · replace h := h.2 hp124
            refine xcondF' (b_f hp124) rfl ?_
            refine xseq ?_
            refine xregion ?_
            refine xvalP (pv_bin2 rfl rfl rfl) rfl rfl ?_
            refine xvalP (pv_assign rfl) rfl rfl ?_
            refine xnil ?_
            refine xthen ?_
            by_cases hp128 : (x1.toList == ((⟨#[98, 108, 97, 110, 107]⟩ : ByteArray)).toList) = true
            · replace h := h.1 hp128
              refine xcondT' hp128 rfl ?_
              refine xseq ?_
              refine xregion ?_
              refine xvalP (pv_move rfl) rfl rfl ?_
              obtain ⟨y130, h129, h⟩ := h
              refine xcall0 (digit_isBlank_con x2 _ h129) Try.func37 (by kernel_rfl) rfl (.cons rfl (.refl _) .nil) rfl rfl ?_
              refine xvalP (pv_assign rfl) rfl rfl ?_
              refine xvalP (pv_assign rfl) rfl rfl ?_
              refine xnil ?_
              refine xthen ?_
              refine xretc ?_
              refine xin_ret ?_
              refine xthen_ret ?_
              replace h := h.symm
              subst h
              exact xret2 hg rfl rfl (.refl _) rfl (.refl _) (SubM.of (.nil _) (.nil _)) ⟨rfl, rfl, rfl⟩
            · replace h := h.2 hp128
              refine xcondF' (b_f hp128) rfl ?_
              refine xseq ?_
              refine xregion ?_
              refine xvalP (pv_bin2 rfl rfl rfl) rfl rfl ?_
              refine xvalP (pv_assign rfl) rfl rfl ?_
              refine xnil ?_
              refine xthen ?_
              by_cases hp132 : (x1.toList == ((⟨#[115, 112, 97, 99, 101]⟩ : ByteArray)).toList) = true
              · replace h := h.1 hp132
                refine xcondT' hp132 rfl ?_
                refine xseq ?_
                refine xregion ?_
                refine xvalP (pv_move rfl) rfl rfl ?_
                obtain ⟨y139, h138, h⟩ := h
                refine xcall0 (digit_isBlank_con x2 _ h138) Try.func37 (by kernel_rfl) rfl (.cons rfl (.refl _) .nil) rfl rfl ?_
                refine xvalP (pv_move rfl) rfl rfl ?_
                by_cases hp140 : y139 = true
                · replace h := h.1 hp140
                  refine xsetB 39 hp140 rfl ?_
                  refine xskip rfl rfl ?_
                  refine xskip rfl rfl ?_
                  refine xvalP (pv_pick rfl rfl) rfl rfl ?_
                  refine xvalP (pv_assign rfl) rfl rfl ?_
                  refine xvalP (pv_assign rfl) rfl rfl ?_
                  refine xnil ?_
                  refine xthen ?_
                  refine xretc ?_
                  refine xin_ret ?_
                  refine xthen_ret ?_
                  replace h := h.symm
                  subst h
                  exact xret2 hg rfl rfl (.refl _) rfl (.refl _) (SubM.of (.nil _) (.nil _)) ⟨rfl, rfl, rfl⟩
                · replace h := h.2 hp140
                  refine xsetB 39 (b_f hp140) rfl ?_
                  refine xvalP (pv_move rfl) rfl rfl ?_
                  obtain ⟨y142, h141, h⟩ := h
                  refine xcall0 (digit_within_con x2 (10 : UInt8) (13 : UInt8) _ h141) Try.func38 (by kernel_rfl) rfl (.cons rfl (.refl _) (.cons rfl (.refl _) (.cons rfl (.refl _) .nil))) rfl rfl ?_
                  refine xvalP (pv_pick rfl rfl) rfl rfl ?_
                  refine xvalP (pv_assign rfl) rfl rfl ?_
                  refine xvalP (pv_assign rfl) rfl rfl ?_
                  refine xnil ?_
                  refine xthen ?_
                  refine xretc ?_
                  refine xin_ret ?_
                  refine xthen_ret ?_
                  replace h := h.symm
                  subst h
                  exact xret2 hg rfl rfl (.refl _) rfl (.refl _) (SubM.of (.nil _) (.nil _)) ⟨rfl, rfl, rfl⟩
              · replace h := h.2 hp132
                refine xcondF' (b_f hp132) rfl ?_
                refine xseq ?_
                refine xregion ?_
                refine xvalP (pv_bin2 rfl rfl rfl) rfl rfl ?_
                refine xvalP (pv_assign rfl) rfl rfl ?_
                refine xnil ?_
                refine xthen ?_
                by_cases hp144 : (x1.toList == ((⟨#[99, 110, 116, 114, 108]⟩ : ByteArray)).toList) = true
                · replace h := h.1 hp144
                  refine xcondT' hp144 rfl ?_
                  refine xseq ?_
                  refine xregion ?_
                  refine xvalP (pv_move rfl) rfl rfl ?_
                  refine xvalP (pv_bin2 rfl rfl rfl) rfl rfl ?_
                  refine xvalP (pv_move rfl) rfl rfl ?_
                  by_cases hp149 : (x2.toNat : Int) < 32
                  · replace h := h.1 hp149
                    refine xsetB 47 (decide_eq_true hp149) rfl ?_
                    refine xskip rfl rfl ?_
                    refine xskip rfl rfl ?_
                    refine xvalP (pv_pick rfl rfl) rfl rfl ?_
                    refine xvalP (pv_assign rfl) rfl rfl ?_
                    refine xvalP (pv_assign rfl) rfl rfl ?_
                    refine xnil ?_
                    refine xthen ?_
                    refine xretc ?_
                    refine xin_ret ?_
                    refine xthen_ret ?_
                    replace h := h.symm
                    subst h
                    exact xret2 hg rfl rfl (.refl _) rfl (.refl _) (SubM.of (.nil _) (.nil _)) ⟨rfl, rfl, rfl⟩
                  · replace h := h.2 hp149
                    refine xsetB 47 (decide_eq_false hp149) rfl ?_
                    refine xvalP (pv_move rfl) rfl rfl ?_
                    refine xvalP (pv_bin2 rfl rfl rfl) rfl rfl ?_
                    refine xvalP (pv_pick rfl rfl) rfl rfl ?_
                    refine xvalP (pv_assign rfl) rfl rfl ?_
                    refine xvalP (pv_assign rfl) rfl rfl ?_
                    refine xnil ?_
                    refine xthen ?_
                    refine xretc ?_
                    refine xin_ret ?_
                    refine xthen_ret ?_
                    replace h := h.symm
                    subst h
                    exact xret2 hg rfl rfl (.refl _) rfl (.refl _) (SubM.of (.nil _) (.nil _)) ⟨rfl, rfl, rfl⟩
                · replace h := h.2 hp144
                  refine xcondF' (b_f hp144) rfl ?_
                  refine xseq ?_
                  refine xregion ?_
                  refine xvalP (pv_bin2 rfl rfl rfl) rfl rfl ?_
                  refine xvalP (pv_assign rfl) rfl rfl ?_
                  refine xnil ?_
                  refine xthen ?_
                  by_cases hp152 : (x1.toList == ((⟨#[103, 114, 97, 112, 104]⟩ : ByteArray)).toList) = true
                  · replace h := h.1 hp152
                    refine xcondT' hp152 rfl ?_
                    refine xseq ?_
                    refine xregion ?_
                    refine xvalP (pv_move rfl) rfl rfl ?_
                    obtain ⟨y154, h153, h⟩ := h
                    refine xcall0 (digit_isGraph_con x2 _ h153) Try.func39 (by kernel_rfl) rfl (.cons rfl (.refl _) .nil) rfl rfl ?_
                    refine xvalP (pv_assign rfl) rfl rfl ?_
                    refine xvalP (pv_assign rfl) rfl rfl ?_
                    refine xnil ?_
                    refine xthen ?_
                    refine xretc ?_
                    refine xin_ret ?_
                    refine xthen_ret ?_
                    replace h := h.symm
                    subst h
                    exact xret2 hg rfl rfl (.refl _) rfl (.refl _) (SubM.of (.nil _) (.nil _)) ⟨rfl, rfl, rfl⟩
                  · replace h := h.2 hp152
                    refine xcondF' (b_f hp152) rfl ?_
                    refine xseq ?_
                    refine xregion ?_
                    refine xvalP (pv_bin2 rfl rfl rfl) rfl rfl ?_
                    refine xvalP (pv_assign rfl) rfl rfl ?_
                    refine xnil ?_
                    refine xthen ?_
                    by_cases hp156 : (x1.toList == ((⟨#[112, 114, 105, 110, 116]⟩ : ByteArray)).toList) = true
                    · replace h := h.1 hp156
                      refine xcondT' hp156 rfl ?_
                      refine xseq ?_
                      refine xregion ?_
                      refine xvalP (pv_move rfl) rfl rfl ?_
                      obtain ⟨y162, h161, h⟩ := h
                      refine xcall0 (digit_isGraph_con x2 _ h161) Try.func39 (by kernel_rfl) rfl (.cons rfl (.refl _) .nil) rfl rfl ?_
                      refine xvalP (pv_move rfl) rfl rfl ?_
                      by_cases hp163 : y162 = true
                      · replace h := h.1 hp163
                        refine xsetB 59 hp163 rfl ?_
                        refine xskip rfl rfl ?_
                        refine xskip rfl rfl ?_
                        refine xvalP (pv_pick rfl rfl) rfl rfl ?_
                        refine xvalP (pv_assign rfl) rfl rfl ?_
                        refine xvalP (pv_assign rfl) rfl rfl ?_
                        refine xnil ?_
                        refine xthen ?_
                        refine xretc ?_
                        refine xin_ret ?_
                        refine xthen_ret ?_
                        replace h := h.symm
                        subst h
                        exact xret2 hg rfl rfl (.refl _) rfl (.refl _) (SubM.of (.nil _) (.nil _)) ⟨rfl, rfl, rfl⟩
                      · replace h := h.2 hp163
                        refine xsetB 59 (b_f hp163) rfl ?_
                        refine xvalP (pv_move rfl) rfl rfl ?_
                        refine xvalP (pv_bin2 rfl rfl rfl) rfl rfl ?_
                        refine xvalP (pv_pick rfl rfl) rfl rfl ?_
                        refine xvalP (pv_assign rfl) rfl rfl ?_
                        refine xvalP (pv_assign rfl) rfl rfl ?_
                        refine xnil ?_
                        refine xthen ?_
                        refine xretc ?_
                        refine xin_ret ?_
                        refine xthen_ret ?_
                        replace h := h.symm
                        subst h
                        exact xret2 hg rfl rfl (.refl _) rfl (.refl _) (SubM.of (.nil _) (.nil _)) ⟨rfl, rfl, rfl⟩
                    · replace h := h.2 hp156
                      refine xcondF' (b_f hp156) rfl ?_
                      refine xseq ?_
                      refine xregion ?_
                      refine xvalP (pv_bin2 rfl rfl rfl) rfl rfl ?_
                      refine xvalP (pv_assign rfl) rfl rfl ?_
                      refine xnil ?_
                      refine xthen ?_
                      by_cases hp166 : (x1.toList == ((⟨#[112, 117, 110, 99, 116]⟩ : ByteArray)).toList) = true
                      · replace h := h.1 hp166
                        refine xcondT' hp166 rfl ?_
                        refine xseq ?_
                        refine xregion ?_
                        refine xvalP (pv_move rfl) rfl rfl ?_
                        obtain ⟨y173, h172, h⟩ := h
                        refine xcall0 (digit_isGraph_con x2 _ h172) Try.func39 (by kernel_rfl) rfl (.cons rfl (.refl _) .nil) rfl rfl ?_
                        refine xvalP (pv_move rfl) rfl rfl ?_
                        by_cases hp174 : y173 = true
                        · replace h := h.1 hp174
                          refine xsetB 67 hp174 rfl ?_
                          refine xvalP (pv_move rfl) rfl rfl ?_
                          obtain ⟨y176, h175, h⟩ := h
                          refine xcall0 (digit_isAlnum_con x2 _ h175) Try.func36 (by kernel_rfl) rfl (.cons rfl (.refl _) .nil) rfl rfl ?_
                          refine xvalP (pv_not rfl) rfl rfl ?_
                          refine xvalP (pv_pick rfl rfl) rfl rfl ?_
                          refine xvalP (pv_assign rfl) rfl rfl ?_
                          refine xvalP (pv_assign rfl) rfl rfl ?_
                          refine xnil ?_
                          refine xthen ?_
                          refine xretc ?_
                          refine xin_ret ?_
                          refine xthen_ret ?_
                          replace h := h.symm
                          subst h
                          exact xret2 hg rfl rfl (.refl _) rfl (.refl _) (SubM.of (.nil _) (.nil _)) ⟨rfl, rfl, rfl⟩
                        · replace h := h.2 hp174
                          refine xsetB 67 (b_f hp174) rfl ?_
                          refine xskip rfl rfl ?_
                          refine xskip rfl rfl ?_
                          refine xskip rfl rfl ?_
                          refine xvalP (pv_pick rfl rfl) rfl rfl ?_
                          refine xvalP (pv_assign rfl) rfl rfl ?_
                          refine xvalP (pv_assign rfl) rfl rfl ?_
                          refine xnil ?_
                          refine xthen ?_
                          refine xretc ?_
                          refine xin_ret ?_
                          refine xthen_ret ?_
                          replace h := h.symm
                          subst h
                          exact xret2 hg rfl rfl (.refl _) rfl (.refl _) (SubM.of (.nil _) (.nil _)) ⟨rfl, rfl, rfl⟩
                      · replace h := h.2 hp166
                        refine xcondF' (b_f hp166) rfl ?_
                        refine xseq ?_
                        refine xregion ?_
                        refine xvalP (pv_bin2 rfl rfl rfl) rfl rfl ?_
                        refine xvalP (pv_assign rfl) rfl rfl ?_
                        refine xnil ?_
                        refine xthen ?_
                        by_cases hp178 : (x1.toList == ((⟨#[120, 100, 105, 103, 105, 116]⟩ : ByteArray)).toList) = true
                        · replace h := h.1 hp178
                          refine xcondT' hp178 rfl ?_
                          refine xseq ?_
                          refine xregion ?_
                          refine xvalP (pv_move rfl) rfl rfl ?_
                          obtain ⟨y188, h187, h⟩ := h
                          refine xcall0 (digit_isDigit_con x2 _ h187) Try.func35 (by kernel_rfl) rfl (.cons rfl (.refl _) .nil) rfl rfl ?_
                          refine xvalP (pv_move rfl) rfl rfl ?_
                          by_cases hp189 : y188 = true
                          · replace h := h.1 hp189
                            refine xsetB 76 hp189 rfl ?_
                            refine xskip rfl rfl ?_
                            refine xskip rfl rfl ?_
                            refine xvalP (pv_pick rfl rfl) rfl rfl ?_
                            refine xvalP (pv_move rfl) rfl rfl ?_
                            refine xskip rfl rfl ?_
                            refine xskip rfl rfl ?_
                            refine xvalP (pv_pick rfl rfl) rfl rfl ?_
                            refine xvalP (pv_assign rfl) rfl rfl ?_
                            refine xvalP (pv_assign rfl) rfl rfl ?_
                            refine xnil ?_
                            refine xthen ?_
                            refine xretc ?_
                            refine xin_ret ?_
                            refine xthen_ret ?_
                            replace h := h.symm
                            subst h
                            exact xret2 hg rfl rfl (.refl _) rfl (.refl _) (SubM.of (.nil _) (.nil _)) ⟨rfl, rfl, rfl⟩
                          · replace h := h.2 hp189
                            refine xsetB 76 (b_f hp189) rfl ?_
                            refine xvalP (pv_move rfl) rfl rfl ?_
                            obtain ⟨y191, h190, h⟩ := h
                            refine xcall0 (digit_within_con x2 (65 : UInt8) (70 : UInt8) _ h190) Try.func38 (by kernel_rfl) rfl (.cons rfl (.refl _) (.cons rfl (.refl _) (.cons rfl (.refl _) .nil))) rfl rfl ?_
                            refine xvalP (pv_pick rfl rfl) rfl rfl ?_
                            refine xvalP (pv_move rfl) rfl rfl ?_
                            by_cases hp192 : y191 = true
                            · replace h := h.1 hp192
                              refine xsetB 80 hp192 rfl ?_
                              refine xskip rfl rfl ?_
                              refine xskip rfl rfl ?_
                              refine xvalP (pv_pick rfl rfl) rfl rfl ?_
                              refine xvalP (pv_assign rfl) rfl rfl ?_
                              refine xvalP (pv_assign rfl) rfl rfl ?_
                              refine xnil ?_
                              refine xthen ?_
                              refine xretc ?_
                              refine xin_ret ?_
                              refine xthen_ret ?_
                              replace h := h.symm
                              subst h
                              exact xret2 hg rfl rfl (.refl _) rfl (.refl _) (SubM.of (.nil _) (.nil _)) ⟨rfl, rfl, rfl⟩
                            · replace h := h.2 hp192
                              refine xsetB 80 (b_f hp192) rfl ?_
                              refine xvalP (pv_move rfl) rfl rfl ?_
                              obtain ⟨y194, h193, h⟩ := h
                              refine xcall0 (digit_within_con x2 (97 : UInt8) (102 : UInt8) _ h193) Try.func38 (by kernel_rfl) rfl (.cons rfl (.refl _) (.cons rfl (.refl _) (.cons rfl (.refl _) .nil))) rfl rfl ?_
                              refine xvalP (pv_pick rfl rfl) rfl rfl ?_
                              refine xvalP (pv_assign rfl) rfl rfl ?_
                              refine xvalP (pv_assign rfl) rfl rfl ?_
                              refine xnil ?_
                              refine xthen ?_
                              refine xretc ?_
                              refine xin_ret ?_
                              refine xthen_ret ?_
                              replace h := h.symm
                              subst h
                              exact xret2 hg rfl rfl (.refl _) rfl (.refl _) (SubM.of (.nil _) (.nil _)) ⟨rfl, rfl, rfl⟩
                        · replace h := h.2 hp178
                          refine xcondF' (b_f hp178) rfl ?_
                          refine xskipc ?_
                          refine xin_normal ?_
                          refine xthen ?_
                          refine xseq ?_
                          refine xregion ?_
                          refine xvalP (pv_assign rfl) rfl rfl ?_
                          refine xvalP (pv_assign rfl) rfl rfl ?_
                          refine xnil ?_
                          refine xthen ?_
                          refine xretc ?_
                          replace h := h.symm
                          subst h
                          exact xret2 hg rfl rfl (.refl _) rfl (.refl _) (SubM.of (.nil _) (.nil _)) ⟨rfl, rfl, rfl⟩
/-- internal/stringslite.IndexByte -/
def internal_stringslite_IndexByte_R (s1 : ByteArray) (c2 : UInt8) (r : Int) : Prop :=
  r = (idxB s1.data.toList c2)
set_option maxHeartbeats 4000000 in
theorem internal_stringslite_IndexByte_con (s1 : ByteArray) (c2 : UInt8) (r : Int) (h : internal_stringslite_IndexByte_R s1 c2 r) : Con Try.prog 40 [.v (.string s1), .v (.int .u8 ((c2.toNat : Int)))] [] [] (Ret (.v (.int .i64 r))) := by
  refine xenter Try.func40 rfl rfl fun g hg => ?_
  simp only [Try.ntmps40, slots]
  refine xseq ?_
  refine xregion ?_
  refine xvalP (pv_assign rfl) rfl rfl ?_
  refine xnil ?_
  refine xthen ?_
  refine xseq ?_
  refine xregion ?_
  refine xvalP (pv_move rfl) rfl rfl ?_
  refine xvalP (pv_move rfl) rfl rfl ?_
  refine xvalP (pv_idxS Try.func42 (by kernel_rfl) (by kernel_rfl) (by kernel_rfl) (by kernel_rfl) rfl rfl) rfl rfl ?_
  refine xvalP (pv_assign rfl) rfl rfl ?_
  refine xnil ?_
  refine xthen ?_
  refine xretc ?_
  replace h := h.symm
  subst h
  exact xret1 hg rfl rfl (.refl _) (SubM.of (.nil _) (.nil _)) ⟨rfl, rfl, rfl⟩
/-- strings.IndexByte -/
def strings_IndexByte_R (s1 : ByteArray) (c2 : UInt8) (r : Int) : Prop :=
  ∃ y4 : Int, internal_stringslite_IndexByte_R s1 c2 y4 ∧ r = y4
set_option maxHeartbeats 4000000 in
theorem strings_IndexByte_con (s1 : ByteArray) (c2 : UInt8) (r : Int) (h : strings_IndexByte_R s1 c2 r) : Con Try.prog 26 [.v (.string s1), .v (.int .u8 ((c2.toNat : Int)))] [] [] (Ret (.v (.int .i64 r))) := by
  refine xenter Try.func26 rfl rfl fun g hg => ?_
  simp only [Try.ntmps26, slots]
  refine xseq ?_
  refine xregion ?_
  refine xvalP (pv_assign rfl) rfl rfl ?_
  refine xnil ?_
  refine xthen ?_
  refine xseq ?_
  refine xregion ?_
  refine xvalP (pv_move rfl) rfl rfl ?_
  refine xvalP (pv_move rfl) rfl rfl ?_
  obtain ⟨y4, h3, h⟩ := h
  refine xcall0 (internal_stringslite_IndexByte_con s1 c2 _ h3) Try.func40 (by kernel_rfl) rfl (.cons rfl (.refl _) (.cons rfl (.refl _) .nil)) rfl rfl ?_
  refine xvalP (pv_assign rfl) rfl rfl ?_
  refine xnil ?_
  refine xthen ?_
  refine xretc ?_
  replace h := h.symm
  subst h
  exact xret1 hg rfl rfl (.refl _) (SubM.of (.nil _) (.nil _)) ⟨rfl, rfl, rfl⟩
/-- scan.IsDelim -/
def scan_IsDelim_R (c1 : UInt8) (r : Bool) : Prop :=
  ∃ y3 : Bool × Bool, digit_Is_R (⟨#[103, 114, 97, 112, 104]⟩ : ByteArray) c1 y3 ∧ ∃ y5 : Bool × Bool, digit_Is_R (⟨#[97, 108, 110, 117, 109]⟩ : ByteArray) c1 y5 ∧ ((y3.1 = true → ((¬ (y5.1 = true) → ∃ y14 : Int, strings_IndexByte_R (⟨#[92, 40, 41, 123, 125, 91, 93, 46, 42, 94, 36, 43, 63, 38]⟩ : ByteArray) c1 y14 ∧ r = (decide (y14 < 0))) ∧ (¬ (¬ (y5.1 = true)) → r = false))) ∧ (¬ (y3.1 = true) → r = false))
set_option maxHeartbeats 4000000 in
theorem scan_IsDelim_con (c1 : UInt8) (r : Bool) (h : scan_IsDelim_R c1 r) : Con Try.prog 10 [.v (.int .u8 ((c1.toNat : Int)))] [] [] (Ret (.v (.bool r))) := by
  refine xenter Try.func10 rfl rfl fun g hg => ?_
  simp only [Try.ntmps10, slots]
  refine xseq ?_
  refine xregion ?_
  refine xvalP (pv_assign rfl) rfl rfl ?_
  refine xnil ?_
  refine xthen ?_
  refine xseq ?_
  refine xregion ?_
  refine xvalP (pv_move rfl) rfl rfl ?_
  obtain ⟨y3, h2, h⟩ := h
  refine xcallF (Fb := []) (Ft := []) (digit_Is_con (⟨#[103, 114, 97, 112, 104]⟩ : ByteArray) c1 _ h2) Try.func25 (by kernel_rfl) rfl (.cons rfl (.refl _) (.cons rfl (.refl _) .nil)) (by exact (SubM.of (by repeat (first | with_reducible exact SubB.refl _ | exact SubB.nil _ | refine SubB.keep rfl rfl (by first | with_reducible exact WkL.refl _ | ((repeat (first | exact WkL.nil | refine WkL.cons (by first | with_reducible exact Wk.refl _ | exact Wk.nil_own _ | exact Wk.nil_pl _ | with_reducible exact Wk.tok _ _ _ | exact Wk.tok _ _ _ | exact Wk.eq (by first | rfl | (simp []; done) | (simp []; omega))) ?_)); done) | exact WkL.refl _) ?_ | refine SubB.drop ?_)) (by repeat (first | exact SubT.nil _ | refine SubT.add ?_ | (refine SubT.keep ?_ ?_; focus (first | with_reducible rfl | (simp []; done))) | refine SubT.drop ?_)))) rfl rfl ?_
  rintro _ _ _ ⟨rfl, rfl, rfl⟩
  simp only [List.nil_append, List.cons_append]
  refine xvalP (pv_move rfl) rfl rfl ?_
  refine xvalP (pv_extract rfl rfl) rfl rfl ?_
  refine xvalP (pv_extract rfl rfl) rfl rfl ?_
  refine xvalP (pv_assign rfl) rfl rfl ?_
  refine xvalP (pv_assign rfl) rfl rfl ?_
  refine xnil ?_
  refine xthen ?_
  refine xseq ?_
  refine xregion ?_
  refine xvalP (pv_move rfl) rfl rfl ?_
  obtain ⟨y5, h4, h⟩ := h
  refine xcallF (Fb := []) (Ft := []) (digit_Is_con (⟨#[97, 108, 110, 117, 109]⟩ : ByteArray) c1 _ h4) Try.func25 (by kernel_rfl) rfl (.cons rfl (.refl _) (.cons rfl (.refl _) .nil)) (by exact (SubM.of (by repeat (first | with_reducible exact SubB.refl _ | exact SubB.nil _ | refine SubB.keep rfl rfl (by first | with_reducible exact WkL.refl _ | ((repeat (first | exact WkL.nil | refine WkL.cons (by first | with_reducible exact Wk.refl _ | exact Wk.nil_own _ | exact Wk.nil_pl _ | with_reducible exact Wk.tok _ _ _ | exact Wk.tok _ _ _ | exact Wk.eq (by first | rfl | (simp []; done) | (simp []; omega))) ?_)); done) | exact WkL.refl _) ?_ | refine SubB.drop ?_)) (by repeat (first | exact SubT.nil _ | refine SubT.add ?_ | (refine SubT.keep ?_ ?_; focus (first | with_reducible rfl | (simp []; done))) | refine SubT.drop ?_)))) rfl rfl ?_
  rintro _ _ _ ⟨rfl, rfl, rfl⟩
  simp only [List.nil_append, List.cons_append]
  refine xvalP (pv_move rfl) rfl rfl ?_
  refine xvalP (pv_extract rfl rfl) rfl rfl ?_
  refine xvalP (pv_extract rfl rfl) rfl rfl ?_
  refine xvalP (pv_assign rfl) rfl rfl ?_
  refine xvalP (pv_assign rfl) rfl rfl ?_
  refine xnil ?_
  refine xthen ?_
  refine xseq ?_
  refine xregion ?_
  refine xvalP (pv_move rfl) rfl rfl ?_
  refine xvalP (pv_move rfl) rfl rfl ?_
  by_cases hp11 : y3.1 = true
  · replace h := h.1 hp11
    refine xsetB 18 hp11 rfl ?_
    refine xvalP (pv_move rfl) rfl rfl ?_
    refine xvalP (pv_not rfl) rfl rfl ?_
    refine xvalP (pv_pick rfl rfl) rfl rfl ?_
    refine xvalP (pv_move rfl) rfl rfl ?_
    by_cases hp12 : ¬ (y5.1 = true)
    · replace h := h.1 hp12
      refine xsetB 22 (not_t (b_f hp12)) rfl ?_
      refine xvalP (pv_move rfl) rfl rfl ?_
      obtain ⟨y14, h13, h⟩ := h
      refine xcall0 (strings_IndexByte_con (⟨#[92, 40, 41, 123, 125, 91, 93, 46, 42, 94, 36, 43, 63, 38]⟩ : ByteArray) c1 _ h13) Try.func26 (by kernel_rfl) rfl (.cons rfl (.refl _) (.cons rfl (.refl _) .nil)) rfl rfl ?_
      refine xvalP (pv_bin2 rfl rfl rfl) rfl rfl ?_
      refine xvalP (pv_pick rfl rfl) rfl rfl ?_
      refine xvalP (pv_assign rfl) rfl rfl ?_
      refine xnil ?_
      refine xthen ?_
      refine xretc ?_
      replace h := h.symm
      subst h
      exact xret1 hg rfl rfl (.refl _) (SubM.of (.nil _) (.nil _)) ⟨rfl, rfl, rfl⟩
    · replace h := h.2 hp12
      refine xsetB 22 (not_f (Decidable.of_not_not hp12)) rfl ?_
      refine xskip rfl rfl ?_
      refine xskip rfl rfl ?_
      refine xskip rfl rfl ?_
      refine xvalP (pv_pick rfl rfl) rfl rfl ?_
      refine xvalP (pv_assign rfl) rfl rfl ?_
      refine xnil ?_
      refine xthen ?_
      refine xretc ?_
      replace h := h.symm
      subst h
      exact xret1 hg rfl rfl (.refl _) (SubM.of (.nil _) (.nil _)) ⟨rfl, rfl, rfl⟩
  · replace h := h.2 hp11
    refine xsetB 18 (b_f hp11) rfl ?_
    refine xskip rfl rfl ?_
    refine xskip rfl rfl ?_
    refine xvalP (pv_pick rfl rfl) rfl rfl ?_
    refine xvalP (pv_move rfl) rfl rfl ?_
    refine xskip rfl rfl ?_
    refine xskip rfl rfl ?_
    refine xskip rfl rfl ?_
    refine xvalP (pv_pick rfl rfl) rfl rfl ?_
    refine xvalP (pv_assign rfl) rfl rfl ?_
    refine xnil ?_
    refine xthen ?_
    refine xretc ?_
    replace h := h.symm
    subst h
    exact xret1 hg rfl rfl (.refl _) (SubM.of (.nil _) (.nil _)) ⟨rfl, rfl, rfl⟩
/-- (*scan.Cursor).Until -/
def scan_Cursor_Until_j2 (ag1 : (Int) → Prop) (x521 : Int) (r : (List UInt8) × Int × ((List UInt8) × Int)) : Prop :=
  InR (x521 + 1) ∧ ag1 (x521 + 1)
def scan_Cursor_Until_l1 (o1 : (List UInt8) × Int) (x3 : UInt8) (ag1 : (Int) → Prop) (x373 : Int) (r : (List UInt8) × Int × ((List UInt8) × Int)) : Prop :=
  ((x373 < (o1.1.length : Int) → 0 ≤ (x373 : Int) ∧ ∃ y486 : UInt8, o1.1[(x373 : Int).toNat]? = some y486 ∧ ((¬ ((y486.toNat : Int) = 10) → 0 ≤ (x373 : Int) ∧ ∃ y535 : UInt8, o1.1[(x373 : Int).toNat]? = some y535 ∧ (((y535.toNat : Int) = (x3.toNat : Int) → (0 ≤ (o1.2 : Int) ∧ (o1.2 : Int) ≤ (x373 : Int) ∧ (x373 : Int) ≤ (o1.1.length : Int)) ∧ ∃ y545 : (List UInt8), slices_Clone_R ((o1.1.take (x373 : Int).toNat).drop (o1.2 : Int).toNat) y545 ∧ InR (x373 + 1) ∧ r = (y545, 0, (o1.1, (x373 + 1)))) ∧ (¬ ((y535.toNat : Int) = (x3.toNat : Int)) → 0 ≤ (x373 : Int) ∧ ∃ y548 : UInt8, o1.1[(x373 : Int).toNat]? = some y548 ∧ (((y548.toNat : Int) = 92 → InR (x373 + 1) ∧ scan_Cursor_Until_j2 ag1 (x373 + 1) r) ∧ (¬ ((y548.toNat : Int) = 92) → scan_Cursor_Until_j2 ag1 x373 r))))) ∧ (¬ (¬ ((y486.toNat : Int) = 10)) → r = (([] : List UInt8), 19, (o1.1, o1.2))))) ∧ (¬ (x373 < (o1.1.length : Int)) → r = (([] : List UInt8), 19, (o1.1, o1.2))))
def scan_Cursor_Until_R (o1 : (List UInt8) × Int) (x3 : UInt8) (r : (List UInt8) × Int × ((List UInt8) × Int)) : Prop :=
  ∃ y10 : Bool, scan_IsDelim_R x3 y10 ∧ ((¬ (y10 = true) → r = (([] : List UInt8), 19, (o1.1, o1.2))) ∧ (¬ (¬ (y10 = true)) → LoopR (fun ag1 s => scan_Cursor_Until_l1 o1 x3 ag1 s r) o1.2))
set_option maxHeartbeats 4000000 in
theorem scan_Cursor_Until_con (o1 : (List UInt8) × Int) (x3 : UInt8) (bx0 : Nat) (ia2 : Option (Nat × Nat)) (r : (List UInt8) × Int × ((List UInt8) × Int)) (h : scan_Cursor_Until_R o1 x3 r) : Con Try.prog 8 [.v (.pointer (some ⟨bx0, 0, none⟩)), .v (.int .u8 ((x3.toNat : Int)))] [⟨bx0, 45, [.sl 1 (some ia2) (List.map eb o1.1), .v (.int .i64 o1.2)]⟩] [⟨ia2, 5, 1, o1.1.length⟩] (fun rr bx tk => ∃ j1, ∃ j2, rr = .tup [.sl 1 (some j1) (List.map eb r.1), .v (.int .i64 r.2.1)] ∧ bx = [⟨bx0, 45, [.sl 1 (some j2) (List.map eb r.2.2.1), .v (.int .i64 r.2.2.2)]⟩] ∧ tk = [⟨j1, 5, 1, r.1.length⟩, ⟨j2, 5, 1, r.2.2.1.length⟩]) := by
  refine xenter Try.func8 rfl rfl fun g hg => ?_
  simp only [Try.ntmps8, slots]
  refine xseq ?_
  refine xregion ?_
  refine xvalP (pv_assign rfl) rfl rfl ?_
  refine xvalP (pv_assign rfl) rfl rfl ?_
  refine xnil ?_
  refine xthen ?_
  refine xseq ?_
  refine xseq ?_
  refine xregion ?_
  refine xvalP (pv_move rfl) rfl rfl ?_
  refine xvalP (pv_eqNil UndC.h rfl rfl) rfl rfl ?_
  refine xnil ?_
  refine xthen ?_
  refine xcondF rfl ?_
  refine xskipc ?_
  refine xthen ?_
  refine xseq ?_
  refine xseq ?_
  refine xregion ?_
  refine xvalP (pv_move rfl) rfl rfl ?_
  obtain ⟨y10, h9, h⟩ := h
  refine xcall0 (scan_IsDelim_con x3 _ h9) Try.func10 (by kernel_rfl) rfl (.cons rfl (.refl _) .nil) rfl rfl ?_
  refine xvalP (pv_not rfl) rfl rfl ?_
  refine xnil ?_
  refine xthen ?_
  by_cases hp11 : ¬ (y10 = true)
  · replace h := h.1 hp11
    refine xcondT' (not_t (b_f hp11)) rfl ?_
    refine xseq ?_
    refine xregion ?_
    refine xvalP (pv_assign rfl) rfl rfl ?_
    refine xvalP (pv_assign rfl) rfl rfl ?_
    refine xnil ?_
    refine xthen ?_
    refine xretc ?_
    refine xthen_ret ?_
    replace h := h.symm
    subst h
    exact xret2 hg rfl rfl (.nil_own _) rfl (.refl _) (SubM.of (by repeat (first | with_reducible exact SubB.refl _ | exact SubB.nil _ | refine SubB.keep rfl rfl (by first | with_reducible exact WkL.refl _ | ((repeat (first | exact WkL.nil | refine WkL.cons (by first | with_reducible exact Wk.refl _ | exact Wk.nil_own _ | exact Wk.nil_pl _ | with_reducible exact Wk.tok _ _ _ | exact Wk.tok _ _ _ | exact Wk.eq (by first | rfl | (simp []; done) | (simp []; omega))) ?_)); done) | exact WkL.refl _) ?_ | refine SubB.drop ?_)) (by repeat (first | exact SubT.nil _ | refine SubT.add ?_ | (refine SubT.keep ?_ ?_; focus (first | with_reducible rfl | (simp []; done))) | refine SubT.drop ?_))) ⟨none, ia2, rfl, rfl, rfl⟩
  · replace h := h.2 hp11
    refine xcondF' (not_f (Decidable.of_not_not hp11)) rfl ?_
    refine xskipc ?_
    refine xthen ?_
    refine xseq ?_
    refine xseq ?_
    refine xregion ?_
    refine xvalP (pv_move rfl) rfl rfl ?_
    refine xvalP (pv_nilCheck rfl) rfl rfl ?_
    refine xvalP (qv_fieldAddrB FldC.h rfl) rfl rfl ?_
    refine xval (qv_loadB 0 ShpC.h rfl rfl rfl rfl) rfl rfl ?_
    refine xvalP (pv_assign rfl) rfl rfl ?_
    refine xnil ?_
    refine xthen ?_
    refine xblock ?_
    obtain ⟨Inv, ⟨m0, hI⟩, hS⟩ := h
    refine xloop (fun σ m => ∃ (x373 : Int), Inv x373 m ∧ σ = ⟨[(0, .v (.pointer (some ⟨bx0, 0, none⟩))), (1, .v (.int .u8 ((x3.toNat : Int)))), (6, .v (.int .i64 x373))], [⟨bx0, 45, [.sl 1 (some ia2) (List.map eb o1.1), .v (.int .i64 o1.2)]⟩], [⟨ia2, 5, 1, o1.1.length⟩]⟩) ⟨o1.2, hI, rfl⟩ ⟨(.cons rfl (.refl _) (.cons rfl (.refl _) (.cons rfl (.refl _) (.nil _)))), (SubM.of (.keep rfl rfl (.refl _) (.nil _)) (.keep rfl (.nil _)))⟩ ?_
    rintro _ m ⟨x373, hI, rfl⟩
    obtain ⟨ag1, hag1, h⟩ : ∃ ag, (∀ s', ag s' → ∃ m', m' < m ∧ Inv s' m') ∧ scan_Cursor_Until_l1 o1 x3 ag x373 r := ⟨_, fun _ h => h, hS x373 _ hI⟩
    clear hS hI
    refine xseq ?_
    refine xseq ?_
    refine xregion ?_
    refine xvalP (pv_move rfl) rfl rfl ?_
    refine xvalP (pv_move rfl) rfl rfl ?_
    refine xvalP (pv_nilCheck rfl) rfl rfl ?_
    refine xvalP (qv_fieldAddrB FldC.h rfl) rfl rfl ?_
    refine xval (qv_loadB 0 ShpC.h rfl rfl rfl rfl) rfl rfl ?_
    refine xvalP (pv_lenM UndC.h rfl) rfl rfl ?_
    refine xvalP (pv_bin2 rfl rfl rfl) rfl rfl ?_
    refine xvalP (pv_move rfl) rfl rfl ?_
    by_cases hp485 : x373 < (o1.1.length : Int)
    · replace h := h.1 hp485
      refine xsetB 24 (decide_eq_true hp485) rfl ?_
      refine xvalP (pv_move rfl) rfl rfl ?_
      refine xvalP (pv_nilCheck rfl) rfl rfl ?_
      refine xvalP (qv_fieldAddrB FldC.h rfl) rfl rfl ?_
      refine xval (qv_loadB 0 ShpC.h rfl rfl rfl rfl) rfl rfl ?_
      refine xvalP (pv_move rfl) rfl rfl ?_
      obtain ⟨h487a, h⟩ := h
      obtain ⟨y486, h487b, h⟩ := h
      refine xvalP (pv_indexAddrM h487a h487b UndC.h ShpC.h rfl rfl) rfl rfl ?_
      refine xval (qv_load ShpC.h rfl rfl rfl) rfl rfl ?_
      refine xvalP (pv_bin2 rfl rfl rfl) rfl rfl ?_
      refine xvalP (pv_pick rfl rfl) rfl rfl ?_
      refine xnil ?_
      refine xthen ?_
      by_cases hp489 : ¬ ((y486.toNat : Int) = 10)
      · replace h := h.1 hp489
        refine xcondT' (not_t (decide_eq_false hp489)) rfl ?_
        refine xskipc ?_
        refine xthen ?_
        refine xseqM (fun σ => ∃ (x521 : Int), scan_Cursor_Until_j2 ag1 x521 r ∧ σ = ⟨[(0, .v (.pointer (some ⟨bx0, 0, none⟩))), (1, .v (.int .u8 ((x3.toNat : Int)))), (6, .v (.int .i64 x521)), (25, .v (.pointer (some ⟨bx0, 0, none⟩))), (26, .v (.pointer (some ⟨bx0, 0, none⟩))), (27, .v (.pointer (some ⟨bx0, 0, none⟩))), (28, .sl 1 (some ia2) (List.map eb o1.1)), (29, .v (.int .i64 x373)), (30, .el [.v (.int .u8 ((y486.toNat : Int)))]), (31, .v (.int .u8 ((y486.toNat : Int)))), (32, .v (.bool (!(decide ((y486.toNat : Int) = 10)))))], [⟨bx0, 45, [.sl 1 (some ia2) (List.map eb o1.1), .v (.int .i64 o1.2)]⟩], [⟨ia2, 5, 1, o1.1.length⟩]⟩) ?_ ?_
        · refine xblock ?_
          refine xseq ?_
          refine xseq ?_
          refine xregion ?_
          refine xvalP (pv_move rfl) rfl rfl ?_
          refine xvalP (pv_nilCheck rfl) rfl rfl ?_
          refine xvalP (qv_fieldAddrB FldC.h rfl) rfl rfl ?_
          refine xval (qv_loadB 0 ShpC.h rfl rfl rfl rfl) rfl rfl ?_
          refine xvalP (pv_move rfl) rfl rfl ?_
          obtain ⟨h536a, h⟩ := h
          obtain ⟨y535, h536b, h⟩ := h
          refine xvalP (pv_indexAddrM h536a h536b UndC.h ShpC.h rfl rfl) rfl rfl ?_
          refine xval (qv_load ShpC.h rfl rfl rfl) rfl rfl ?_
          refine xvalP (pv_move rfl) rfl rfl ?_
          refine xvalP (pv_bin2 rfl rfl rfl) rfl rfl ?_
          refine xnil ?_
          refine xthen ?_
          by_cases hp538 : (y535.toNat : Int) = (x3.toNat : Int)
          · replace h := h.1 hp538
            refine xcondT' (decide_eq_true hp538) rfl ?_
            refine xseq ?_
            refine xregionD (m := 12) (by kernel_rfl) rfl ?_
            obtain ⟨h543, h⟩ := h
            obtain ⟨y545, h544, h⟩ := h
            refine xpval 0 rfl (pv_move rfl) rfl rfl (by kernel_rfl) (by kernel_rfl) (by kernel_rfl) (fun _ _ _ _ h => h) ?_
            refine xpval 1 rfl (pv_nilCheck rfl) rfl rfl (by kernel_rfl) (by kernel_rfl) (by kernel_rfl) (fun _ _ _ _ h => h) ?_
            refine xpval 2 rfl (qv_fieldAddrB FldC.h rfl) rfl rfl (by kernel_rfl) (by kernel_rfl) (by kernel_rfl) (fun _ _ _ _ h => h) ?_
            refine xpval 4 rfl (pv_move rfl) rfl rfl (by kernel_rfl) (by kernel_rfl) (by kernel_rfl) (fun _ _ _ _ h => h) ?_
            refine xpval 5 rfl (pv_nilCheck rfl) rfl rfl (by kernel_rfl) (by kernel_rfl) (by kernel_rfl) (fun _ _ _ _ h => h) ?_
            refine xpval 6 rfl (qv_fieldAddrB FldC.h rfl) rfl rfl (by kernel_rfl) (by kernel_rfl) (by kernel_rfl) (fun _ _ _ _ h => h) ?_
            refine xpval 8 rfl (pv_move rfl) rfl rfl (by kernel_rfl) (by kernel_rfl) (by kernel_rfl) (fun _ _ _ _ h => h) ?_
            refine xpvalE 3 [7] rfl (qv_loadB 0 ShpC.h rfl rfl rfl rfl) rfl rfl (by kernel_rfl) (by kernel_rfl) (by kernel_rfl) (fun _ _ _ _ h => h) ?_
            refine xpvalE 7 [] rfl (qv_loadB 0 ShpC.h rfl rfl rfl rfl) rfl rfl (by kernel_rfl) (by kernel_rfl) (by kernel_rfl) (fun _ _ _ _ h => h) ?_
            refine xpval 9 rfl (pv_sliceLH h543 UndC.h ShpC.h rfl rfl rfl) rfl rfl (by kernel_rfl) (by kernel_rfl) (by kernel_rfl) (fun _ _ _ _ h => h) ?_
            refine xpstep (i := 10) (by kernel_rfl) rfl ?_
            refine wcallM (slices_Clone_con ((o1.1.take (x373 : Int).toNat).drop (o1.2 : Int).toNat) _ h544) Try.func23 (by kernel_rfl) rfl (.cons rfl (.refl _) .nil) rfl rfl fun i546 => ?_
            refine xpval 11 rfl (pv_assign rfl) rfl rfl (by kernel_rfl) (by kernel_rfl) (by kernel_rfl) (fun _ _ _ _ h => h) ?_
            refine xpdone (by kernel_rfl) ?_
            refine xthen ?_
            refine xseq ?_
            refine xregion ?_
            refine xvalP (pv_move rfl) rfl rfl ?_
            refine xvalP (pv_move rfl) rfl rfl ?_
            obtain ⟨h547, h⟩ := h
            refine xvalP (pv_addI h547 rfl rfl) rfl rfl ?_
            refine xvalP (pv_nilCheck rfl) rfl rfl ?_
            refine xvalP (qv_fieldAddrB FldC.h rfl) rfl rfl ?_
            refine xstore 0 ShpC.h rfl rfl rfl rfl rfl rfl rfl ?_
            refine xnil ?_
            refine xthen ?_
            refine xseq ?_
            refine xregion ?_
            refine xvalP (pv_move rfl) rfl rfl ?_
            refine xvalP (pv_assign rfl) rfl rfl ?_
            refine xvalP (pv_assign rfl) rfl rfl ?_
            refine xnil ?_
            refine xthen ?_
            refine xretc ?_
            refine xthen_ret ?_
            refine xin_ret ?_
            refine xthen_ret ?_
            refine xthen_ret ?_
            refine xin_ret ?_
            refine xthen_ret ?_
            replace h := h.symm
            subst h
            exact xret2 hg rfl rfl (.refl _) rfl (.refl _) (SubM.of (.keep rfl rfl (.refl _) (.nil _)) (.keep rfl (.keep rfl (.nil _)))) ⟨i546, ia2, rfl, rfl, rfl⟩
          · replace h := h.2 hp538
            refine xcondF' (decide_eq_false hp538) rfl ?_
            refine xskipc ?_
            refine xthen ?_
            refine xseq ?_
            refine xregion ?_
            refine xvalP (pv_move rfl) rfl rfl ?_
            refine xvalP (pv_nilCheck rfl) rfl rfl ?_
            refine xvalP (qv_fieldAddrB FldC.h rfl) rfl rfl ?_
            refine xval (qv_loadB 0 ShpC.h rfl rfl rfl rfl) rfl rfl ?_
            refine xvalP (pv_move rfl) rfl rfl ?_
            obtain ⟨h549a, h⟩ := h
            obtain ⟨y548, h549b, h⟩ := h
            refine xvalP (pv_indexAddrM h549a h549b UndC.h ShpC.h rfl rfl) rfl rfl ?_
            refine xval (qv_load ShpC.h rfl rfl rfl) rfl rfl ?_
            refine xvalP (pv_bin2 rfl rfl rfl) rfl rfl ?_
            refine xnil ?_
            refine xthen ?_
            by_cases hp551 : (y548.toNat : Int) = 92
            · replace h := h.1 hp551
              refine xcondT' (decide_eq_true hp551) rfl ?_
              refine xregion ?_
              refine xvalP (pv_move rfl) rfl rfl ?_
              obtain ⟨h552, h⟩ := h
              refine xvalP (pv_addI h552 rfl rfl) rfl rfl ?_
              refine xvalP (pv_assign rfl) rfl rfl ?_
              refine xnil ?_
              refine xin_normal ?_
              exact xmeet ⟨(x373 + 1), h, rfl⟩ ⟨(.cons rfl (.refl _) (.cons rfl (.refl _) (.cons rfl (.refl _) (.cons rfl (.refl _) (.cons rfl (.refl _) (.cons rfl (.refl _) (.cons rfl (.refl _) (.cons rfl (.refl _) (.cons rfl (.refl _) (.cons rfl (.refl _) (.cons rfl (.refl _) (.nil _)))))))))))), (SubM.of (.keep rfl rfl (.refl _) (.nil _)) (.keep rfl (.nil _)))⟩
            · replace h := h.2 hp551
              refine xcondF' (decide_eq_false hp551) rfl ?_
              refine xskipc ?_
              refine xin_normal ?_
              exact xmeet ⟨x373, h, rfl⟩ ⟨(.cons rfl (.refl _) (.cons rfl (.refl _) (.cons rfl (.refl _) (.cons rfl (.refl _) (.cons rfl (.refl _) (.cons rfl (.refl _) (.cons rfl (.refl _) (.cons rfl (.refl _) (.cons rfl (.refl _) (.cons rfl (.refl _) (.cons rfl (.refl _) (.nil _)))))))))))), (SubM.of (.keep rfl rfl (.refl _) (.nil _)) (.keep rfl (.nil _)))⟩
        · clear h
          rintro _ ⟨x521, h, rfl⟩
          refine xregion ?_
          refine xvalP (pv_move rfl) rfl rfl ?_
          obtain ⟨h553, h⟩ := h
          refine xvalP (pv_addI h553 rfl rfl) rfl rfl ?_
          refine xvalP (pv_assign rfl) rfl rfl ?_
          refine xnil ?_
          obtain ⟨m', hm, hI⟩ := hag1 _ h
          exact xagain ⟨(x521 + 1), hI, rfl⟩ hm ⟨(.cons rfl (.refl _) (.cons rfl (.refl _) (.cons rfl (.refl _) (.nil _)))), (SubM.of (.keep rfl rfl (.refl _) (.nil _)) (.keep rfl (.nil _)))⟩
      · replace h := h.2 hp489
        refine xcondF' (not_f (decide_eq_true (Decidable.of_not_not hp489))) rfl ?_
        refine xexit ?_
        refine xthen_exit ?_
        refine xthen_exit ?_
        refine xin_same rfl ?_
        refine xthen ?_
        refine xseq ?_
        refine xregion ?_
        refine xvalP (pv_assign rfl) rfl rfl ?_
        refine xvalP (pv_assign rfl) rfl rfl ?_
        refine xnil ?_
        refine xthen ?_
        refine xretc ?_
        replace h := h.symm
        subst h
        exact xret2 hg rfl rfl (.nil_own _) rfl (.refl _) (SubM.of (by repeat (first | with_reducible exact SubB.refl _ | exact SubB.nil _ | refine SubB.keep rfl rfl (by first | with_reducible exact WkL.refl _ | ((repeat (first | exact WkL.nil | refine WkL.cons (by first | with_reducible exact Wk.refl _ | exact Wk.nil_own _ | exact Wk.nil_pl _ | with_reducible exact Wk.tok _ _ _ | exact Wk.tok _ _ _ | exact Wk.eq (by first | rfl | (simp []; done) | (simp []; omega))) ?_)); done) | exact WkL.refl _) ?_ | refine SubB.drop ?_)) (by repeat (first | exact SubT.nil _ | refine SubT.add ?_ | (refine SubT.keep ?_ ?_; focus (first | with_reducible rfl | (simp []; done))) | refine SubT.drop ?_))) ⟨none, ia2, rfl, rfl, rfl⟩
    · replace h := h.2 hp485
      refine xsetB 24 (decide_eq_false hp485) rfl ?_
      refine xskip rfl rfl ?_
      refine xskip rfl rfl ?_
      refine xskip rfl rfl ?_
      refine xskip rfl rfl ?_
      refine xskip rfl rfl ?_
      refine xskip rfl rfl ?_
      refine xskip rfl rfl ?_
      refine xskip rfl rfl ?_
      refine xvalP (pv_pick rfl rfl) rfl rfl ?_
      refine xnil ?_
      refine xthen ?_
      refine xcondF rfl ?_
      refine xexit ?_
      refine xthen_exit ?_
      refine xthen_exit ?_
      refine xin_same rfl ?_
      refine xthen ?_
      refine xseq ?_
      refine xregion ?_
      refine xvalP (pv_assign rfl) rfl rfl ?_
      refine xvalP (pv_assign rfl) rfl rfl ?_
      refine xnil ?_
      refine xthen ?_
      refine xretc ?_
      replace h := h.symm
      subst h
      exact xret2 hg rfl rfl (.nil_own _) rfl (.refl _) (SubM.of (by repeat (first | with_reducible exact SubB.refl _ | exact SubB.nil _ | refine SubB.keep rfl rfl (by first | with_reducible exact WkL.refl _ | ((repeat (first | exact WkL.nil | refine WkL.cons (by first | with_reducible exact Wk.refl _ | exact Wk.nil_own _ | exact Wk.nil_pl _ | with_reducible exact Wk.tok _ _ _ | exact Wk.tok _ _ _ | exact Wk.eq (by first | rfl | (simp []; done) | (simp []; omega))) ?_)); done) | exact WkL.refl _) ?_ | refine SubB.drop ?_)) (by repeat (first | exact SubT.nil _ | refine SubT.add ?_ | (refine SubT.keep ?_ ?_; focus (first | with_reducible rfl | (simp []; done))) | refine SubT.drop ?_))) ⟨none, ia2, rfl, rfl, rfl⟩
/-- palinoderef01.In -/
def palinoderef01_In_j2 (i176 : Int) (ag1 : (Int) → Prop) (r : Bool) : Prop :=
  InR (i176 + 2) ∧ ag1 (i176 + 2)
def palinoderef01_In_l1 (row1 : ByteArray) (c2 : UInt8) (ag1 : (Int) → Prop) (i176 : Int) (r : Bool) : Prop :=
  InR (i176 + 1) ∧ (((i176 + 1) < (row1.size : Int) → 0 ≤ (i176 : Int) ∧ ∃ c254 : UInt8, row1[(i176 : Int).toNat]? = some c254 ∧ (((c254.toNat : Int) ≤ (c2.toNat : Int) → InR (i176 + 1) ∧ 0 ≤ ((i176 + 1) : Int) ∧ ∃ c259 : UInt8, row1[((i176 + 1) : Int).toNat]? = some c259 ∧ (((c2.toNat : Int) ≤ (c259.toNat : Int) → r = true) ∧ (¬ ((c2.toNat : Int) ≤ (c259.toNat : Int)) → palinoderef01_In_j2 i176 ag1 r))) ∧ (¬ ((c254.toNat : Int) ≤ (c2.toNat : Int)) → palinoderef01_In_j2 i176 ag1 r))) ∧ (¬ ((i176 + 1) < (row1.size : Int)) → r = false))
def palinoderef01_In_R (row1 : ByteArray) (c2 : UInt8) (r : Bool) : Prop :=
  LoopR (fun ag1 s => palinoderef01_In_l1 row1 c2 ag1 s r) 0
set_option maxHeartbeats 4000000 in
theorem palinoderef01_In_con (row1 : ByteArray) (c2 : UInt8) (r : Bool) (h : palinoderef01_In_R row1 c2 r) : Con Try.prog 24 [.v (.string row1), .v (.int .u8 ((c2.toNat : Int)))] [] [] (Ret (.v (.bool r))) := by
  refine xenter Try.func24 rfl rfl fun g hg => ?_
  simp only [Try.ntmps24, slots]
  refine xseq ?_
  refine xregion ?_
  refine xvalP (pv_assign rfl) rfl rfl ?_
  refine xnil ?_
  refine xthen ?_
  refine xseq ?_
  refine xseq ?_
  refine xregion ?_
  refine xvalP (pv_assign rfl) rfl rfl ?_
  refine xnil ?_
  refine xthen ?_
  refine xblock ?_
  obtain ⟨Inv, ⟨m0, hI⟩, hS⟩ := h
  refine xloop (fun σ m => ∃ (i176 : Int), Inv i176 m ∧ σ = ⟨[(0, .v (.string row1)), (1, .v (.int .u8 ((c2.toNat : Int)))), (5, .v (.int .i64 i176))], [], []⟩) ⟨0, hI, rfl⟩ ⟨(.cons rfl (.refl _) (.cons rfl (.refl _) (.cons rfl (.refl _) (.nil _)))), (SubM.of (.nil _) (.nil _))⟩ ?_
  rintro _ m ⟨i176, hI, rfl⟩
  obtain ⟨ag1, hag1, h⟩ : ∃ ag, (∀ s', ag s' → ∃ m', m' < m ∧ Inv s' m') ∧ palinoderef01_In_l1 row1 c2 ag i176 r := ⟨_, fun _ h => h, hS i176 _ hI⟩
  clear hS hI
  refine xseq ?_
  refine xseq ?_
  refine xregion ?_
  refine xvalP (pv_move rfl) rfl rfl ?_
  obtain ⟨h224, h⟩ := h
  refine xvalP (pv_addI h224 rfl rfl) rfl rfl ?_
  refine xvalP (pv_move rfl) rfl rfl ?_
  refine xvalP (pv_lenS UndC.h rfl) rfl rfl ?_
  refine xvalP (pv_bin2 rfl rfl rfl) rfl rfl ?_
  refine xnil ?_
  refine xthen ?_
  by_cases hp227 : (i176 + 1) < (row1.size : Int)
  · replace h := h.1 hp227
    refine xcondT' (decide_eq_true hp227) rfl ?_
    refine xskipc ?_
    refine xthen ?_
    refine xseqM (fun σ => palinoderef01_In_j2 i176 ag1 r ∧ σ = ⟨[(0, .v (.string row1)), (1, .v (.int .u8 ((c2.toNat : Int)))), (5, .v (.int .i64 i176))], [], []⟩) ?_ ?_
    · refine xblock ?_
      refine xseq ?_
      refine xregion ?_
      refine xvalP (pv_move rfl) rfl rfl ?_
      refine xvalP (pv_move rfl) rfl rfl ?_
      refine xvalP (pv_move rfl) rfl rfl ?_
      obtain ⟨h253, h⟩ := h
      obtain ⟨c254, h253b, h⟩ := h
      refine xvalP (pv_indexSM h253 h253b UndC.h rfl rfl) rfl rfl ?_
      refine xvalP (pv_bin2 rfl rfl rfl) rfl rfl ?_
      refine xvalP (pv_move rfl) rfl rfl ?_
      by_cases hp256 : (c254.toNat : Int) ≤ (c2.toNat : Int)
      · replace h := h.1 hp256
        refine xsetB 18 (decide_eq_true hp256) rfl ?_
        refine xvalP (pv_move rfl) rfl rfl ?_
        refine xvalP (pv_move rfl) rfl rfl ?_
        refine xvalP (pv_move rfl) rfl rfl ?_
        obtain ⟨h257, h⟩ := h
        refine xvalP (pv_addI h257 rfl rfl) rfl rfl ?_
        obtain ⟨h258, h⟩ := h
        obtain ⟨c259, h258b, h⟩ := h
        refine xvalP (pv_indexSM h258 h258b UndC.h rfl rfl) rfl rfl ?_
        refine xvalP (pv_bin2 rfl rfl rfl) rfl rfl ?_
        refine xvalP (pv_pick rfl rfl) rfl rfl ?_
        refine xnil ?_
        refine xthen ?_
        by_cases hp261 : (c2.toNat : Int) ≤ (c259.toNat : Int)
        · replace h := h.1 hp261
          refine xcondT' (decide_eq_true hp261) rfl ?_
          refine xseq ?_
          refine xregion ?_
          refine xvalP (pv_assign rfl) rfl rfl ?_
          refine xnil ?_
          refine xthen ?_
          refine xretc ?_
          refine xin_ret ?_
          refine xthen_ret ?_
          refine xthen_ret ?_
          refine xin_ret ?_
          refine xthen_ret ?_
          replace h := h.symm
          subst h
          exact xret1 hg rfl rfl (.refl _) (SubM.of (.nil _) (.nil _)) ⟨rfl, rfl, rfl⟩
        · replace h := h.2 hp261
          refine xcondF' (decide_eq_false hp261) rfl ?_
          refine xskipc ?_
          refine xin_normal ?_
          exact xmeet ⟨h, rfl⟩ ⟨(.cons rfl (.refl _) (.cons rfl (.refl _) (.cons rfl (.refl _) (.nil _)))), (SubM.of (.nil _) (.nil _))⟩
      · replace h := h.2 hp256
        refine xsetB 18 (decide_eq_false hp256) rfl ?_
        refine xskip rfl rfl ?_
        refine xskip rfl rfl ?_
        refine xskip rfl rfl ?_
        refine xskip rfl rfl ?_
        refine xskip rfl rfl ?_
        refine xskip rfl rfl ?_
        refine xvalP (pv_pick rfl rfl) rfl rfl ?_
        refine xnil ?_
        refine xthen ?_
        refine xcondF rfl ?_
        refine xskipc ?_
        refine xin_normal ?_
        exact xmeet ⟨h, rfl⟩ ⟨(.cons rfl (.refl _) (.cons rfl (.refl _) (.cons rfl (.refl _) (.nil _)))), (SubM.of (.nil _) (.nil _))⟩
    · clear h
      rintro _ ⟨h, rfl⟩
      refine xregion ?_
      refine xvalP (pv_move rfl) rfl rfl ?_
      obtain ⟨h262, h⟩ := h
      refine xvalP (pv_addI h262 rfl rfl) rfl rfl ?_
      refine xvalP (pv_assign rfl) rfl rfl ?_
      refine xnil ?_
      obtain ⟨m', hm, hI⟩ := hag1 _ h
      exact xagain ⟨(i176 + 2), hI, rfl⟩ hm ⟨(.cons rfl (.refl _) (.cons rfl (.refl _) (.cons rfl (.refl _) (.nil _)))), (SubM.of (.nil _) (.nil _))⟩
  · replace h := h.2 hp227
    refine xcondF' (decide_eq_false hp227) rfl ?_
    refine xexit ?_
    refine xthen_exit ?_
    refine xthen_exit ?_
    refine xin_same rfl ?_
    refine xthen ?_
    refine xseq ?_
    refine xregion ?_
    refine xvalP (pv_assign rfl) rfl rfl ?_
    refine xnil ?_
    refine xthen ?_
    refine xretc ?_
    replace h := h.symm
    subst h
    exact xret1 hg rfl rfl (.refl _) (SubM.of (.nil _) (.nil _)) ⟨rfl, rfl, rfl⟩
/-- palinoderef14.IsDelim -/
def palinoderef14_IsDelim_l1 (c1 : UInt8) (ag1 : (Int) → Prop) (i89 : Int) (r : Bool) : Prop :=
  ((i89 < (((⟨#[92, 40, 41, 123, 125, 91, 93, 46, 42, 94, 36, 43, 63, 38]⟩ : ByteArray)).size : Int) → 0 ≤ (i89 : Int) ∧ ∃ c116 : UInt8, ((⟨#[92, 40, 41, 123, 125, 91, 93, 46, 42, 94, 36, 43, 63, 38]⟩ : ByteArray))[(i89 : Int).toNat]? = some c116 ∧ (((c116.toNat : Int) = (c1.toNat : Int) → r = false) ∧ (¬ ((c116.toNat : Int) = (c1.toNat : Int)) → InR (i89 + 1) ∧ ag1 (i89 + 1)))) ∧ (¬ (i89 < (((⟨#[92, 40, 41, 123, 125, 91, 93, 46, 42, 94, 36, 43, 63, 38]⟩ : ByteArray)).size : Int)) → r = true))
def palinoderef14_IsDelim_R (c1 : UInt8) (r : Bool) : Prop :=
  (((c1.toNat : Int) < 33 → r = false) ∧ (¬ ((c1.toNat : Int) < 33) → ((126 < (c1.toNat : Int) → r = false) ∧ (¬ (126 < (c1.toNat : Int)) → ∃ y26 : Bool, palinoderef01_In_R (⟨#[65, 90, 97, 122, 48, 57]⟩ : ByteArray) c1 y26 ∧ ((y26 = true → r = false) ∧ (¬ (y26 = true) → LoopR (fun ag1 s => palinoderef14_IsDelim_l1 c1 ag1 s r) 0))))))
set_option maxHeartbeats 4000000 in
theorem palinoderef14_IsDelim_con (c1 : UInt8) (r : Bool) (h : palinoderef14_IsDelim_R c1 r) : Con Try.prog 9 [.v (.int .u8 ((c1.toNat : Int)))] [] [] (Ret (.v (.bool r))) := by
  refine xenter Try.func9 rfl rfl fun g hg => ?_
  simp only [Try.ntmps9, slots]
  refine xseq ?_
  refine xregion ?_
  refine xvalP (pv_assign rfl) rfl rfl ?_
  refine xnil ?_
  refine xthen ?_
  refine xseq ?_
  refine xseq ?_
  refine xregion ?_
  refine xvalP (pv_move rfl) rfl rfl ?_
  refine xvalP (pv_bin2 rfl rfl rfl) rfl rfl ?_
  refine xvalP (pv_move rfl) rfl rfl ?_
  by_cases hp22 : (c1.toNat : Int) < 33
  · replace h := h.1 hp22
    refine xsetB 7 (decide_eq_true hp22) rfl ?_
    refine xskip rfl rfl ?_
    refine xskip rfl rfl ?_
    refine xvalP (pv_pick rfl rfl) rfl rfl ?_
    refine xvalP (pv_move rfl) rfl rfl ?_
    refine xskip rfl rfl ?_
    refine xskip rfl rfl ?_
    refine xvalP (pv_pick rfl rfl) rfl rfl ?_
    refine xnil ?_
    refine xthen ?_
    refine xcondT rfl ?_
    refine xseq ?_
    refine xregion ?_
    refine xvalP (pv_assign rfl) rfl rfl ?_
    refine xnil ?_
    refine xthen ?_
    refine xretc ?_
    refine xthen_ret ?_
    replace h := h.symm
    subst h
    exact xret1 hg rfl rfl (.refl _) (SubM.of (.nil _) (.nil _)) ⟨rfl, rfl, rfl⟩
  · replace h := h.2 hp22
    refine xsetB 7 (decide_eq_false hp22) rfl ?_
    refine xvalP (pv_move rfl) rfl rfl ?_
    refine xvalP (pv_bin2 rfl rfl rfl) rfl rfl ?_
    refine xvalP (pv_pick rfl rfl) rfl rfl ?_
    refine xvalP (pv_move rfl) rfl rfl ?_
    by_cases hp24 : 126 < (c1.toNat : Int)
    · replace h := h.1 hp24
      refine xsetB 11 (decide_eq_true hp24) rfl ?_
      refine xskip rfl rfl ?_
      refine xskip rfl rfl ?_
      refine xvalP (pv_pick rfl rfl) rfl rfl ?_
      refine xnil ?_
      refine xthen ?_
      refine xcondT rfl ?_
      refine xseq ?_
      refine xregion ?_
      refine xvalP (pv_assign rfl) rfl rfl ?_
      refine xnil ?_
      refine xthen ?_
      refine xretc ?_
      refine xthen_ret ?_
      replace h := h.symm
      subst h
      exact xret1 hg rfl rfl (.refl _) (SubM.of (.nil _) (.nil _)) ⟨rfl, rfl, rfl⟩
    · replace h := h.2 hp24
      refine xsetB 11 (decide_eq_false hp24) rfl ?_
      refine xvalP (pv_move rfl) rfl rfl ?_
      obtain ⟨y26, h25, h⟩ := h
      refine xcall0 (palinoderef01_In_con (⟨#[65, 90, 97, 122, 48, 57]⟩ : ByteArray) c1 _ h25) Try.func24 (by kernel_rfl) rfl (.cons rfl (.refl _) (.cons rfl (.refl _) .nil)) rfl rfl ?_
      refine xvalP (pv_pick rfl rfl) rfl rfl ?_
      refine xnil ?_
      refine xthen ?_
      by_cases hp27 : y26 = true
      · replace h := h.1 hp27
        refine xcondT' hp27 rfl ?_
        refine xseq ?_
        refine xregion ?_
        refine xvalP (pv_assign rfl) rfl rfl ?_
        refine xnil ?_
        refine xthen ?_
        refine xretc ?_
        refine xthen_ret ?_
        replace h := h.symm
        subst h
        exact xret1 hg rfl rfl (.refl _) (SubM.of (.nil _) (.nil _)) ⟨rfl, rfl, rfl⟩
      · replace h := h.2 hp27
        refine xcondF' (b_f hp27) rfl ?_
        refine xskipc ?_
        refine xthen ?_
        refine xseq ?_
        refine xregion ?_
        refine xvalP (pv_assign rfl) rfl rfl ?_
        refine xnil ?_
        refine xthen ?_
        refine xseq ?_
        refine xseq ?_
        refine xregion ?_
        refine xvalP (pv_assign rfl) rfl rfl ?_
        refine xnil ?_
        refine xthen ?_
        refine xblock ?_
        obtain ⟨Inv, ⟨m0, hI⟩, hS⟩ := h
        refine xloop (fun σ m => ∃ (i89 : Int), Inv i89 m ∧ σ = ⟨[(0, .v (.int .u8 ((c1.toNat : Int)))), (3, .v (.string ((⟨#[92, 40, 41, 123, 125, 91, 93, 46, 42, 94, 36, 43, 63, 38]⟩ : ByteArray)))), (4, .v (.int .i64 i89))], [], []⟩) ⟨0, hI, rfl⟩ ⟨(.cons rfl (.refl _) (.cons rfl (.refl _) (.cons rfl (.refl _) (.nil _)))), (SubM.of (.nil _) (.nil _))⟩ ?_
        rintro _ m ⟨i89, hI, rfl⟩
        obtain ⟨ag1, hag1, h⟩ : ∃ ag, (∀ s', ag s' → ∃ m', m' < m ∧ Inv s' m') ∧ palinoderef14_IsDelim_l1 c1 ag i89 r := ⟨_, fun _ h => h, hS i89 _ hI⟩
        clear hS hI
        refine xseq ?_
        refine xseq ?_
        refine xregion ?_
        refine xvalP (pv_move rfl) rfl rfl ?_
        refine xvalP (pv_move rfl) rfl rfl ?_
        refine xvalP (pv_lenS UndC.h rfl) rfl rfl ?_
        refine xvalP (pv_bin2 rfl rfl rfl) rfl rfl ?_
        refine xnil ?_
        refine xthen ?_
        by_cases hp110 : i89 < (((⟨#[92, 40, 41, 123, 125, 91, 93, 46, 42, 94, 36, 43, 63, 38]⟩ : ByteArray)).size : Int)
        · replace h := h.1 hp110
          refine xcondT' (decide_eq_true hp110) rfl ?_
          refine xskipc ?_
          refine xthen ?_
          refine xseq ?_
          refine xblock ?_
          refine xseq ?_
          refine xregion ?_
          refine xvalP (pv_move rfl) rfl rfl ?_
          refine xvalP (pv_move rfl) rfl rfl ?_
          obtain ⟨h115, h⟩ := h
          obtain ⟨c116, h115b, h⟩ := h
          refine xvalP (pv_indexSM h115 h115b UndC.h rfl rfl) rfl rfl ?_
          refine xvalP (pv_move rfl) rfl rfl ?_
          refine xvalP (pv_bin2 rfl rfl rfl) rfl rfl ?_
          refine xnil ?_
          refine xthen ?_
          by_cases hp118 : (c116.toNat : Int) = (c1.toNat : Int)
          · replace h := h.1 hp118
            refine xcondT' (decide_eq_true hp118) rfl ?_
            refine xseq ?_
            refine xregion ?_
            refine xvalP (pv_assign rfl) rfl rfl ?_
            refine xnil ?_
            refine xthen ?_
            refine xretc ?_
            refine xin_ret ?_
            refine xthen_ret ?_
            refine xthen_ret ?_
            refine xin_ret ?_
            refine xthen_ret ?_
            replace h := h.symm
            subst h
            exact xret1 hg rfl rfl (.refl _) (SubM.of (.nil _) (.nil _)) ⟨rfl, rfl, rfl⟩
          · replace h := h.2 hp118
            refine xcondF' (decide_eq_false hp118) rfl ?_
            refine xskipc ?_
            refine xin_normal ?_
            refine xthen ?_
            refine xregion ?_
            refine xvalP (pv_move rfl) rfl rfl ?_
            obtain ⟨h119, h⟩ := h
            refine xvalP (pv_addI h119 rfl rfl) rfl rfl ?_
            refine xvalP (pv_assign rfl) rfl rfl ?_
            refine xnil ?_
            obtain ⟨m', hm, hI⟩ := hag1 _ h
            exact xagain ⟨(i89 + 1), hI, rfl⟩ hm ⟨(.cons rfl (.refl _) (.cons rfl (.refl _) (.cons rfl (.refl _) (.nil _)))), (SubM.of (.nil _) (.nil _))⟩
        · replace h := h.2 hp110
          refine xcondF' (decide_eq_false hp110) rfl ?_
          refine xexit ?_
          refine xthen_exit ?_
          refine xthen_exit ?_
          refine xin_same rfl ?_
          refine xthen ?_
          refine xseq ?_
          refine xregion ?_
          refine xvalP (pv_assign rfl) rfl rfl ?_
          refine xnil ?_
          refine xthen ?_
          refine xretc ?_
          replace h := h.symm
          subst h
          exact xret1 hg rfl rfl (.refl _) (SubM.of (.nil _) (.nil _)) ⟨rfl, rfl, rfl⟩
/-- (*scan.Cursor).At -/
def scan_Cursor_At_R (o1 : (List UInt8) × Int) (r : Int) : Prop :=
  r = o1.2
set_option maxHeartbeats 4000000 in
theorem scan_Cursor_At_con (o1 : (List UInt8) × Int) (bx0 : Nat) (ia2 : Option (Nat × Nat)) (r : Int) (h : scan_Cursor_At_R o1 r) : Con Try.prog 11 [.v (.pointer (some ⟨bx0, 0, none⟩))] [⟨bx0, 45, [.sl 1 (some ia2) (List.map eb o1.1), .v (.int .i64 o1.2)]⟩] [⟨ia2, 5, 1, o1.1.length⟩] (fun rr bx tk => rr = .v (.int .i64 r) ∧ bx = [⟨bx0, 45, [.sl 1 (some ia2) (List.map eb o1.1), .v (.int .i64 o1.2)]⟩] ∧ tk = [⟨ia2, 5, 1, o1.1.length⟩]) := by
  refine xenter Try.func11 rfl rfl fun g hg => ?_
  simp only [Try.ntmps11, slots]
  refine xseq ?_
  refine xregion ?_
  refine xvalP (pv_assign rfl) rfl rfl ?_
  refine xnil ?_
  refine xthen ?_
  refine xseq ?_
  refine xseq ?_
  refine xregion ?_
  refine xvalP (pv_move rfl) rfl rfl ?_
  refine xvalP (pv_eqNil UndC.h rfl rfl) rfl rfl ?_
  refine xnil ?_
  refine xthen ?_
  refine xcondF rfl ?_
  refine xskipc ?_
  refine xthen ?_
  refine xseq ?_
  refine xregion ?_
  refine xvalP (pv_move rfl) rfl rfl ?_
  refine xvalP (pv_nilCheck rfl) rfl rfl ?_
  refine xvalP (qv_fieldAddrB FldC.h rfl) rfl rfl ?_
  refine xval (qv_loadB 0 ShpC.h rfl rfl rfl rfl) rfl rfl ?_
  refine xvalP (pv_assign rfl) rfl rfl ?_
  refine xnil ?_
  refine xthen ?_
  refine xretc ?_
  replace h := h.symm
  subst h
  exact xret1 hg rfl rfl (.refl _) (SubM.of (.keep rfl rfl (.refl _) (.nil _)) (.keep rfl (.nil _))) ⟨rfl, rfl, rfl⟩
/-- palinodelaw14.awake -/
def palinodelaw14_awake_R (r : Bool) : Prop :=
  ∃ y3 : ((List UInt8) × Int), scan_Open_R ([(97 : UInt8), (92 : UInt8), (47 : UInt8), (98 : UInt8), (47 : UInt8), (99 : UInt8)]) y3 ∧ ∃ y7 : (List UInt8) × Int × ((List UInt8) × Int), scan_Cursor_Until_R (y3.1, y3.2) (47 : UInt8) y7 ∧ ((y7.2.1 = 0 → (((((⟨y7.1.toArray⟩ : ByteArray)).toList == ((⟨#[97, 92, 47, 98]⟩ : ByteArray)).toList) = true → ∃ y24 : Int, scan_Cursor_At_R (y7.2.2.1, y7.2.2.2) y24 ∧ r = (decide (y24 = 5))) ∧ (¬ ((((⟨y7.1.toArray⟩ : ByteArray)).toList == ((⟨#[97, 92, 47, 98]⟩ : ByteArray)).toList) = true) → r = false))) ∧ (¬ (y7.2.1 = 0) → r = false))
set_option maxHeartbeats 4000000 in
theorem palinodelaw14_awake_con (r : Bool) (h : palinodelaw14_awake_R r) : Con Try.prog 12 [] [] [] (Ret (.v (.bool r))) := by
  refine xenter Try.func12 rfl rfl fun g hg => ?_
  simp only [Try.ntmps12, slots]
  refine xseq ?_
  refine xregion ?_
  refine xvalP (pv_assign rfl) rfl rfl ?_
  refine xnil ?_
  refine xthen ?_
  refine xseq ?_
  refine xregion ?_
  refine xbuildSliceM (f := eb) [(97 : UInt8), (92 : UInt8), (47 : UInt8), (98 : UInt8), (47 : UInt8), (99 : UInt8)] UndC.h InfC.h rfl rfl (by first | exact wkR_of rfl | (repeat (first | exact WkR.nil | refine WkR.cons (by (repeat (first | exact WkL.nil | refine WkL.cons (by first | with_reducible exact Wk.refl _ | exact Wk.nil_own _ | exact Wk.nil_pl _ | with_reducible exact Wk.tok _ _ _ | exact Wk.tok _ _ _ | exact Wk.eq (by first | rfl | (simp []; done) | (simp []; omega))) ?_))) ?_))) rfl rfl rfl rfl fun s4 => ?_
  refine xmark 0 UndC.h UndC.h rfl rfl rfl rfl ?_
  obtain ⟨y3, h2, h⟩ := h
  refine xcallF (Fb := []) (Ft := []) (scan_Open_con ([(97 : UInt8), (92 : UInt8), (47 : UInt8), (98 : UInt8), (47 : UInt8), (99 : UInt8)]) _ h2) Try.func7 (by kernel_rfl) rfl (.cons rfl (.refl _) .nil) (by exact (SubM.of (by repeat (first | with_reducible exact SubB.refl _ | exact SubB.nil _ | refine SubB.keep rfl rfl (by first | with_reducible exact WkL.refl _ | ((repeat (first | exact WkL.nil | refine WkL.cons (by first | with_reducible exact Wk.refl _ | exact Wk.nil_own _ | exact Wk.nil_pl _ | with_reducible exact Wk.tok _ _ _ | exact Wk.tok _ _ _ | exact Wk.eq (by first | rfl | (simp []; done) | (simp []; omega))) ?_)); done) | exact WkL.refl _) ?_ | refine SubB.drop ?_)) (by repeat (first | exact SubT.nil _ | refine SubT.add ?_ | (refine SubT.keep ?_ ?_; focus (first | with_reducible rfl | (simp []; done))) | refine SubT.drop ?_)))) rfl rfl ?_
  rintro _ _ _ ⟨b5, i4, rfl, rfl, rfl⟩
  simp only [List.nil_append, List.cons_append]
  refine xvalP (pv_assign rfl) rfl rfl ?_
  refine xnil ?_
  refine xthen ?_
  refine xseq ?_
  refine xregion ?_
  refine xvalP (pv_move rfl) rfl rfl ?_
  obtain ⟨y7, h6, h⟩ := h
  refine xcallF (Fb := []) (Ft := []) (scan_Cursor_Until_con (y3.1, y3.2) (47 : UInt8) b5 i4 _ h6) Try.func8 (by kernel_rfl) rfl (.cons rfl (.refl _) (.cons rfl (.refl _) .nil)) (by exact (SubM.of (by repeat (first | with_reducible exact SubB.refl _ | exact SubB.nil _ | refine SubB.keep rfl rfl (by first | with_reducible exact WkL.refl _ | ((repeat (first | exact WkL.nil | refine WkL.cons (by first | with_reducible exact Wk.refl _ | exact Wk.nil_own _ | exact Wk.nil_pl _ | with_reducible exact Wk.tok _ _ _ | exact Wk.tok _ _ _ | exact Wk.eq (by first | rfl | (simp []; done) | (simp []; omega))) ?_)); done) | exact WkL.refl _) ?_ | refine SubB.drop ?_)) (by repeat (first | exact SubT.nil _ | refine SubT.add ?_ | (refine SubT.keep ?_ ?_; focus (first | with_reducible rfl | (simp []; done))) | refine SubT.drop ?_)))) rfl rfl ?_
  rintro _ _ _ ⟨i8, i9, rfl, rfl, rfl⟩
  simp only [List.nil_append, List.cons_append]
  refine xvalP (pv_move rfl) rfl rfl ?_
  refine xvalP (pv_extract rfl rfl) rfl rfl ?_
  refine xvalP (pv_extract rfl rfl) rfl rfl ?_
  refine xvalP (pv_assign rfl) rfl rfl ?_
  refine xvalP (pv_assign rfl) rfl rfl ?_
  refine xnil ?_
  refine xthen ?_
  refine xseq ?_
  refine xregion ?_
  refine xvalP (pv_move rfl) rfl rfl ?_
  refine xvalP (pv_bin2 rfl rfl rfl) rfl rfl ?_
  refine xvalP (pv_move rfl) rfl rfl ?_
  by_cases hp19 : y7.2.1 = 0
  · replace h := h.1 hp19
    refine xsetB 14 (decide_eq_true hp19) rfl ?_
    refine xvalP (pv_move rfl) rfl rfl ?_
    refine xval (pv_str (bs := y7.1) UndC.h UndC.h UndC.h rfl rfl rfl (fun _ h => by injection h with h; exact h.symm)) rfl rfl ?_
    refine xvalP (pv_bin2 rfl rfl rfl) rfl rfl ?_
    refine xvalP (pv_pick rfl rfl) rfl rfl ?_
    refine xvalP (pv_move rfl) rfl rfl ?_
    by_cases hp22 : (((⟨y7.1.toArray⟩ : ByteArray)).toList == ((⟨#[97, 92, 47, 98]⟩ : ByteArray)).toList) = true
    · replace h := h.1 hp22
      refine xsetB 19 hp22 rfl ?_
      refine xvalP (pv_move rfl) rfl rfl ?_
      obtain ⟨y24, h23, h⟩ := h
      refine xcallF (Fb := []) (Ft := [⟨i8, 5, 1, y7.1.length⟩]) (scan_Cursor_At_con (y7.2.2.1, y7.2.2.2) b5 i9 _ h23) Try.func11 (by kernel_rfl) rfl (.cons rfl (.refl _) .nil) (by refine SubM.trans (SubM.mvT 1 rfl) ?_; (simp only [List.eraseIdx]); exact (SubM.of (by repeat (first | with_reducible exact SubB.refl _ | exact SubB.nil _ | refine SubB.keep rfl rfl (by first | with_reducible exact WkL.refl _ | ((repeat (first | exact WkL.nil | refine WkL.cons (by first | with_reducible exact Wk.refl _ | exact Wk.nil_own _ | exact Wk.nil_pl _ | with_reducible exact Wk.tok _ _ _ | exact Wk.tok _ _ _ | exact Wk.eq (by first | rfl | (simp []; done) | (simp []; omega))) ?_)); done) | exact WkL.refl _) ?_ | refine SubB.drop ?_)) (by repeat (first | exact SubT.nil _ | refine SubT.add ?_ | (refine SubT.keep ?_ ?_; focus (first | with_reducible rfl | (simp []; done))) | refine SubT.drop ?_)))) rfl rfl ?_
      rintro _ _ _ ⟨rfl, rfl, rfl⟩
      simp only [List.nil_append, List.cons_append]
      refine xvalP (pv_bin2 rfl rfl rfl) rfl rfl ?_
      refine xvalP (pv_pick rfl rfl) rfl rfl ?_
      refine xvalP (pv_assign rfl) rfl rfl ?_
      refine xnil ?_
      refine xthen ?_
      refine xretc ?_
      replace h := h.symm
      subst h
      exact xret1 hg rfl rfl (.refl _) (SubM.of (.nil _) (.nil _)) ⟨rfl, rfl, rfl⟩
    · replace h := h.2 hp22
      refine xsetB 19 (b_f hp22) rfl ?_
      refine xskip rfl rfl ?_
      refine xskip rfl rfl ?_
      refine xskip rfl rfl ?_
      refine xvalP (pv_pick rfl rfl) rfl rfl ?_
      refine xvalP (pv_assign rfl) rfl rfl ?_
      refine xnil ?_
      refine xthen ?_
      refine xretc ?_
      replace h := h.symm
      subst h
      exact xret1 hg rfl rfl (.refl _) (SubM.of (.nil _) (.nil _)) ⟨rfl, rfl, rfl⟩
  · replace h := h.2 hp19
    refine xsetB 14 (decide_eq_false hp19) rfl ?_
    refine xskip rfl rfl ?_
    refine xskip rfl rfl ?_
    refine xskip rfl rfl ?_
    refine xvalP (pv_pick rfl rfl) rfl rfl ?_
    refine xvalP (pv_move rfl) rfl rfl ?_
    refine xskip rfl rfl ?_
    refine xskip rfl rfl ?_
    refine xskip rfl rfl ?_
    refine xvalP (pv_pick rfl rfl) rfl rfl ?_
    refine xvalP (pv_assign rfl) rfl rfl ?_
    refine xnil ?_
    refine xthen ?_
    refine xretc ?_
    replace h := h.symm
    subst h
    exact xret1 hg rfl rfl (.refl _) (SubM.of (.nil _) (.nil _)) ⟨rfl, rfl, rfl⟩
/-- (*scan.Cursor).At -/
def scan_Cursor_At_v2_R (o1 : (List UInt8) × Int) (r : Int) : Prop :=
  r = o1.2
set_option maxHeartbeats 4000000 in
theorem scan_Cursor_At_v2_con (o1 : (List UInt8) × Int) (bx0 : Nat) (r : Int) (h : scan_Cursor_At_v2_R o1 r) : Con Try.prog 11 [.v (.pointer (some ⟨bx0, 0, none⟩))] [⟨bx0, 45, [.sl 1 none (List.map eb o1.1), .v (.int .i64 o1.2)]⟩] [] (fun rr bx tk => rr = .v (.int .i64 r) ∧ bx = [⟨bx0, 45, [.sl 1 none (List.map eb o1.1), .v (.int .i64 o1.2)]⟩] ∧ tk = []) := by
  refine xenter Try.func11 rfl rfl fun g hg => ?_
  simp only [Try.ntmps11, slots]
  refine xseq ?_
  refine xregion ?_
  refine xvalP (pv_assign rfl) rfl rfl ?_
  refine xnil ?_
  refine xthen ?_
  refine xseq ?_
  refine xseq ?_
  refine xregion ?_
  refine xvalP (pv_move rfl) rfl rfl ?_
  refine xvalP (pv_eqNil UndC.h rfl rfl) rfl rfl ?_
  refine xnil ?_
  refine xthen ?_
  refine xcondF rfl ?_
  refine xskipc ?_
  refine xthen ?_
  refine xseq ?_
  refine xregion ?_
  refine xvalP (pv_move rfl) rfl rfl ?_
  refine xvalP (pv_nilCheck rfl) rfl rfl ?_
  refine xvalP (qv_fieldAddrB FldC.h rfl) rfl rfl ?_
  refine xval (qv_loadB 0 ShpC.h rfl rfl rfl rfl) rfl rfl ?_
  refine xvalP (pv_assign rfl) rfl rfl ?_
  refine xnil ?_
  refine xthen ?_
  refine xretc ?_
  replace h := h.symm
  subst h
  exact xret1 hg rfl rfl (.refl _) (SubM.of (.keep rfl rfl (.refl _) (.nil _)) (.nil _)) ⟨rfl, rfl, rfl⟩
/-- palinodelaw14.bent -/
def palinodelaw14_bent_j2 (i500 : Int) (b1 : List UInt8) (ag1 : ((List UInt8) × Int) → Prop) (out714 : List UInt8) (r : (List UInt8)) : Prop :=
  0 ≤ (i500 : Int) ∧ ∃ y742 : UInt8, b1[(i500 : Int).toNat]? = some y742 ∧ Room (out714.length + ([y742]).length) 1 ∧ InR (i500 + 1) ∧ ag1 ((out714 ++ [y742]), (i500 + 1))
def palinodelaw14_bent_j3 (out498 : List UInt8) (i500 : Int) (b1 : List UInt8) (ag1 : ((List UInt8) × Int) → Prop) (x727 : Bool) (r : (List UInt8)) : Prop :=
  ((x727 = true → Room (out498.length + ([(92 : UInt8)]).length) 1 ∧ palinodelaw14_bent_j2 i500 b1 ag1 (out498 ++ [(92 : UInt8)]) r) ∧ (¬ (x727 = true) → palinodelaw14_bent_j2 i500 b1 ag1 out498 r))
def palinodelaw14_bent_l1 (b1 : List UInt8) (d2 : UInt8) (ag1 : ((List UInt8) × Int) → Prop) (out498 : List UInt8) (i500 : Int) (r : (List UInt8)) : Prop :=
  ((i500 < (b1.length : Int) → 0 ≤ (i500 : Int) ∧ ∃ y728 : UInt8, b1[(i500 : Int).toNat]? = some y728 ∧ (((y728.toNat : Int) = 92 → palinodelaw14_bent_j3 out498 i500 b1 ag1 true r) ∧ (¬ ((y728.toNat : Int) = 92) → 0 ≤ (i500 : Int) ∧ ∃ y732 : UInt8, b1[(i500 : Int).toNat]? = some y732 ∧ (((y732.toNat : Int) = 10 → palinodelaw14_bent_j3 out498 i500 b1 ag1 true r) ∧ (¬ ((y732.toNat : Int) = 10) → 0 ≤ (i500 : Int) ∧ ∃ y736 : UInt8, b1[(i500 : Int).toNat]? = some y736 ∧ palinodelaw14_bent_j3 out498 i500 b1 ag1 (decide ((y736.toNat : Int) = (d2.toNat : Int))) r))))) ∧ (¬ (i500 < (b1.length : Int)) → r = out498))
def palinodelaw14_bent_R (b1 : List UInt8) (d2 : UInt8) (r : (List UInt8)) : Prop :=
  LoopR (fun ag1 s => palinodelaw14_bent_l1 b1 d2 ag1 s.1 s.2 r) (([] : List UInt8), 0)
set_option maxHeartbeats 4000000 in
theorem palinodelaw14_bent_con (b1 : List UInt8) (d2 : UInt8) (r : (List UInt8)) (h : palinodelaw14_bent_R b1 d2 r) : Con Try.prog 13 [.sl 1 none (List.map eb b1), .v (.int .u8 ((d2.toNat : Int)))] [] [] (RetM 1 5 eb r) := by
  refine xenter Try.func13 rfl rfl fun g hg => ?_
  simp only [Try.ntmps13, slots]
  refine xseq ?_
  refine xregion ?_
  refine xvalP (pv_assign rfl) rfl rfl ?_
  refine xnil ?_
  refine xthen ?_
  refine xseq ?_
  refine xregion ?_
  refine xvalP (pv_assign rfl) rfl rfl ?_
  refine xnil ?_
  refine xthen ?_
  refine xseq ?_
  refine xseq ?_
  refine xregion ?_
  refine xvalP (pv_assign rfl) rfl rfl ?_
  refine xnil ?_
  refine xthen ?_
  refine xblock ?_
  obtain ⟨Inv, ⟨m0, hI⟩, hS⟩ := h
  refine xloop (fun σ m => ∃ (out498 : List UInt8), ∃ (i500 : Int), ∃ (i499 : Option (Nat × Nat)), Inv (out498, i500) m ∧ σ = ⟨[(0, .sl 1 none (List.map eb b1)), (1, .v (.int .u8 ((d2.toNat : Int)))), (5, .sl 1 (some i499) (List.map eb out498)), (6, .v (.int .i64 i500))], [], [⟨i499, 5, 1, out498.length⟩]⟩) ⟨([] : List UInt8), 0, none, hI, rfl⟩ ⟨(.cons rfl (.refl _) (.cons rfl (.refl _) (.cons rfl (.nil_own _) (.cons rfl (.refl _) (.nil _))))), (SubM.of (.nil _) (.add (.nil _)))⟩ ?_
  rintro _ m ⟨out498, i500, i499, hI, rfl⟩
  obtain ⟨ag1, hag1, h⟩ : ∃ ag, (∀ s', ag s' → ∃ m', m' < m ∧ Inv s' m') ∧ palinodelaw14_bent_l1 b1 d2 ag out498 i500 r := ⟨_, fun _ h => h, hS (out498, i500) _ hI⟩
  clear hS hI
  refine xseq ?_
  refine xseq ?_
  refine xregion ?_
  refine xvalP (pv_move rfl) rfl rfl ?_
  refine xvalP (pv_move rfl) rfl rfl ?_
  refine xvalP (pv_lenM UndC.h rfl) rfl rfl ?_
  refine xvalP (pv_bin2 rfl rfl rfl) rfl rfl ?_
  refine xnil ?_
  refine xthen ?_
  by_cases hp629 : i500 < (b1.length : Int)
  · replace h := h.1 hp629
    refine xcondT' (decide_eq_true hp629) rfl ?_
    refine xskipc ?_
    refine xthen ?_
    refine xseq ?_
    refine xblock ?_
    refine xseqM (fun σ => ∃ (out714 : List UInt8), ∃ (i715 : Option (Nat × Nat)), palinodelaw14_bent_j2 i500 b1 ag1 out714 r ∧ σ = ⟨[(0, .sl 1 none (List.map eb b1)), (1, .v (.int .u8 ((d2.toNat : Int)))), (5, .sl 1 (some i715) (List.map eb out714)), (6, .v (.int .i64 i500))], [], [⟨i715, 5, 1, out714.length⟩]⟩) ?_ ?_
    · refine xseqM (fun σ => ∃ (x727 : Bool), palinodelaw14_bent_j3 out498 i500 b1 ag1 x727 r ∧ σ = ⟨[(0, .sl 1 none (List.map eb b1)), (1, .v (.int .u8 ((d2.toNat : Int)))), (5, .sl 1 (some i499) (List.map eb out498)), (6, .v (.int .i64 i500)), (32, .v (.bool x727))], [], [⟨i499, 5, 1, out498.length⟩]⟩) ?_ ?_
      · refine xregion ?_
        refine xvalP (pv_move rfl) rfl rfl ?_
        refine xvalP (pv_move rfl) rfl rfl ?_
        obtain ⟨h729a, h⟩ := h
        obtain ⟨y728, h729b, h⟩ := h
        refine xvalP (pv_indexAddrM h729a h729b UndC.h ShpC.h rfl rfl) rfl rfl ?_
        refine xval (qv_load ShpC.h rfl rfl rfl) rfl rfl ?_
        refine xvalP (pv_bin2 rfl rfl rfl) rfl rfl ?_
        refine xvalP (pv_move rfl) rfl rfl ?_
        by_cases hp731 : (y728.toNat : Int) = 92
        · replace h := h.1 hp731
          refine xsetB 18 (decide_eq_true hp731) rfl ?_
          refine xskip rfl rfl ?_
          refine xskip rfl rfl ?_
          refine xskip rfl rfl ?_
          refine xskip rfl rfl ?_
          refine xskip rfl rfl ?_
          refine xvalP (pv_pick rfl rfl) rfl rfl ?_
          refine xvalP (pv_move rfl) rfl rfl ?_
          refine xskip rfl rfl ?_
          refine xskip rfl rfl ?_
          refine xskip rfl rfl ?_
          refine xskip rfl rfl ?_
          refine xskip rfl rfl ?_
          refine xskip rfl rfl ?_
          refine xvalP (pv_pick rfl rfl) rfl rfl ?_
          refine xnil ?_
          exact xmeet ⟨true, h, rfl⟩ ⟨(.cons rfl (.refl _) (.cons rfl (.refl _) (.cons rfl (.refl _) (.cons rfl (.refl _) (.cons rfl (.refl _) (.nil _)))))), (SubM.of (.nil _) (.keep rfl (.nil _)))⟩
        · replace h := h.2 hp731
          refine xsetB 18 (decide_eq_false hp731) rfl ?_
          refine xvalP (pv_move rfl) rfl rfl ?_
          refine xvalP (pv_move rfl) rfl rfl ?_
          obtain ⟨h733a, h⟩ := h
          obtain ⟨y732, h733b, h⟩ := h
          refine xvalP (pv_indexAddrM h733a h733b UndC.h ShpC.h rfl rfl) rfl rfl ?_
          refine xval (qv_load ShpC.h rfl rfl rfl) rfl rfl ?_
          refine xvalP (pv_bin2 rfl rfl rfl) rfl rfl ?_
          refine xvalP (pv_pick rfl rfl) rfl rfl ?_
          refine xvalP (pv_move rfl) rfl rfl ?_
          by_cases hp735 : (y732.toNat : Int) = 10
          · replace h := h.1 hp735
            refine xsetB 25 (decide_eq_true hp735) rfl ?_
            refine xskip rfl rfl ?_
            refine xskip rfl rfl ?_
            refine xskip rfl rfl ?_
            refine xskip rfl rfl ?_
            refine xskip rfl rfl ?_
            refine xskip rfl rfl ?_
            refine xvalP (pv_pick rfl rfl) rfl rfl ?_
            refine xnil ?_
            exact xmeet ⟨true, h, rfl⟩ ⟨(.cons rfl (.refl _) (.cons rfl (.refl _) (.cons rfl (.refl _) (.cons rfl (.refl _) (.cons rfl (.refl _) (.nil _)))))), (SubM.of (.nil _) (.keep rfl (.nil _)))⟩
          · replace h := h.2 hp735
            refine xsetB 25 (decide_eq_false hp735) rfl ?_
            refine xvalP (pv_move rfl) rfl rfl ?_
            refine xvalP (pv_move rfl) rfl rfl ?_
            obtain ⟨h737a, h⟩ := h
            obtain ⟨y736, h737b, h⟩ := h
            refine xvalP (pv_indexAddrM h737a h737b UndC.h ShpC.h rfl rfl) rfl rfl ?_
            refine xval (qv_load ShpC.h rfl rfl rfl) rfl rfl ?_
            refine xvalP (pv_move rfl) rfl rfl ?_
            refine xvalP (pv_bin2 rfl rfl rfl) rfl rfl ?_
            refine xvalP (pv_pick rfl rfl) rfl rfl ?_
            refine xnil ?_
            exact xmeet ⟨(decide ((y736.toNat : Int) = (d2.toNat : Int))), h, rfl⟩ ⟨(.cons rfl (.refl _) (.cons rfl (.refl _) (.cons rfl (.refl _) (.cons rfl (.refl _) (.cons rfl (.refl _) (.nil _)))))), (SubM.of (.nil _) (.keep rfl (.nil _)))⟩
      · clear h
        rintro _ ⟨x727, h, rfl⟩
        by_cases hp739 : x727 = true
        · replace h := h.1 hp739
          refine xcondT' hp739 rfl ?_
          refine xregion ?_
          refine xvalP (pv_move rfl) rfl rfl ?_
          refine xbuildSliceM (f := eb) [(92 : UInt8)] UndC.h InfC.h rfl rfl (by first | exact wkR_of rfl | (repeat (first | exact WkR.nil | refine WkR.cons (by (repeat (first | exact WkL.nil | refine WkL.cons (by first | with_reducible exact Wk.refl _ | exact Wk.nil_own _ | exact Wk.nil_pl _ | with_reducible exact Wk.tok _ _ _ | exact Wk.tok _ _ _ | exact Wk.eq (by first | rfl | (simp []; done) | (simp []; omega))) ?_))) ?_))) rfl rfl rfl rfl fun s34 => ?_
          obtain ⟨h740, h⟩ := h
          refine xappendM (l := out498) (l2 := [(92 : UInt8)]) 1 h740 UndC.h InfC.h rfl rfl rfl (.refl _) rfl rfl rfl fun i741 => ?_
          refine xvalP (pv_assign rfl) rfl rfl ?_
          refine xnil ?_
          exact xmeet ⟨(out498 ++ [(92 : UInt8)]), i741, h, rfl⟩ ⟨(.cons rfl (.refl _) (.cons rfl (.refl _) (.cons rfl (.refl _) (.cons rfl (.refl _) (.nil _))))), (SubM.of (.nil _) (.drop (.keep rfl (.nil _))))⟩
        · replace h := h.2 hp739
          refine xcondF' (b_f hp739) rfl ?_
          refine xskipc ?_
          exact xmeet ⟨out498, i499, h, rfl⟩ ⟨(.cons rfl (.refl _) (.cons rfl (.refl _) (.cons rfl (.refl _) (.cons rfl (.refl _) (.nil _))))), (SubM.of (.nil _) (.keep rfl (.nil _)))⟩
    · clear h
      rintro _ ⟨out714, i715, h, rfl⟩
      refine xregion ?_
      refine xvalP (pv_move rfl) rfl rfl ?_
      refine xvalP (pv_move rfl) rfl rfl ?_
      refine xvalP (pv_move rfl) rfl rfl ?_
      obtain ⟨h743a, h⟩ := h
      obtain ⟨y742, h743b, h⟩ := h
      refine xvalP (pv_indexAddrM h743a h743b UndC.h ShpC.h rfl rfl) rfl rfl ?_
      refine xval (qv_load ShpC.h rfl rfl rfl) rfl rfl ?_
      refine xbuildSliceM (f := eb) [y742] UndC.h InfC.h rfl rfl (by first | exact wkR_of rfl | (repeat (first | exact WkR.nil | refine WkR.cons (by (repeat (first | exact WkL.nil | refine WkL.cons (by first | with_reducible exact Wk.refl _ | exact Wk.nil_own _ | exact Wk.nil_pl _ | with_reducible exact Wk.tok _ _ _ | exact Wk.tok _ _ _ | exact Wk.eq (by first | rfl | (simp []; done) | (simp []; omega))) ?_))) ?_))) rfl rfl rfl rfl fun s41 => ?_
      obtain ⟨h744, h⟩ := h
      refine xappendM (l := out714) (l2 := [y742]) 1 h744 UndC.h InfC.h rfl rfl rfl (.refl _) rfl rfl rfl fun i745 => ?_
      refine xvalP (pv_assign rfl) rfl rfl ?_
      refine xnil ?_
      refine xin_normal ?_
      refine xthen ?_
      refine xregion ?_
      refine xvalP (pv_move rfl) rfl rfl ?_
      obtain ⟨h746, h⟩ := h
      refine xvalP (pv_addI h746 rfl rfl) rfl rfl ?_
      refine xvalP (pv_assign rfl) rfl rfl ?_
      refine xnil ?_
      obtain ⟨m', hm, hI⟩ := hag1 _ h
      exact xagain ⟨(out714 ++ [y742]), (i500 + 1), i745, hI, rfl⟩ hm ⟨(.cons rfl (.refl _) (.cons rfl (.refl _) (.cons rfl (.refl _) (.cons rfl (.refl _) (.nil _))))), (SubM.of (.nil _) (.drop (.keep rfl (.nil _))))⟩
  · replace h := h.2 hp629
    refine xcondF' (decide_eq_false hp629) rfl ?_
    refine xexit ?_
    refine xthen_exit ?_
    refine xthen_exit ?_
    refine xin_same rfl ?_
    refine xthen ?_
    refine xseq ?_
    refine xregion ?_
    refine xvalP (pv_move rfl) rfl rfl ?_
    refine xvalP (pv_assign rfl) rfl rfl ?_
    refine xnil ?_
    refine xthen ?_
    refine xretc ?_
    replace h := h.symm
    subst h
    exact xret1 hg rfl rfl (.refl _) (SubM.of (.nil _) (.keep rfl (.nil _))) ⟨i499, rfl, rfl, rfl⟩
/-- palinoderef01.Copy -/
def palinoderef01_Copy_R (b1 : List UInt8) (r : (List UInt8)) : Prop :=
  Room ((([] : List UInt8)).length + b1.length) 1 ∧ r = (([] : List UInt8) ++ b1)
set_option maxHeartbeats 4000000 in
theorem palinoderef01_Copy_con (b1 : List UInt8) (r : (List UInt8)) (h : palinoderef01_Copy_R b1 r) : Con Try.prog 14 [.sl 1 none (List.map eb b1)] [] [] (RetM 1 5 eb r) := by
  refine xenter Try.func14 rfl rfl fun g hg => ?_
  simp only [Try.ntmps14, slots]
  refine xseq ?_
  refine xregion ?_
  refine xvalP (pv_assign rfl) rfl rfl ?_
  refine xnil ?_
  refine xthen ?_
  refine xseq ?_
  refine xregion ?_
  refine xbuildSliceM (f := eb) ([] : List UInt8) UndC.h InfC.h rfl rfl (by first | exact wkR_of rfl | (repeat (first | exact WkR.nil | refine WkR.cons (by (repeat (first | exact WkL.nil | refine WkL.cons (by first | with_reducible exact Wk.refl _ | exact Wk.nil_own _ | exact Wk.nil_pl _ | with_reducible exact Wk.tok _ _ _ | exact Wk.tok _ _ _ | exact Wk.eq (by first | rfl | (simp []; done) | (simp []; omega))) ?_))) ?_))) rfl rfl rfl rfl fun s3 => ?_
  refine xvalP (pv_move rfl) rfl rfl ?_
  obtain ⟨h2, h⟩ := h
  refine xappendM (l := ([] : List UInt8)) (l2 := b1) 0 h2 UndC.h InfC.h rfl rfl rfl (.refl _) rfl rfl rfl fun i3 => ?_
  refine xvalP (pv_assign rfl) rfl rfl ?_
  refine xnil ?_
  refine xthen ?_
  refine xretc ?_
  replace h := h.symm
  subst h
  exact xret1 hg rfl rfl (.refl _) (SubM.of (.nil _) (.keep rfl (.nil _))) ⟨i3, rfl, rfl, rfl⟩
/-- palinoderef01.Same -/
def palinoderef01_Same_l1 (a1 : List UInt8) (b2 : List UInt8) (ag1 : (Int) → Prop) (i128 : Int) (r : Bool) : Prop :=
  ((i128 < (a1.length : Int) → 0 ≤ (i128 : Int) ∧ ∃ y180 : UInt8, a1[(i128 : Int).toNat]? = some y180 ∧ 0 ≤ (i128 : Int) ∧ ∃ y182 : UInt8, b2[(i128 : Int).toNat]? = some y182 ∧ ((¬ ((y180.toNat : Int) = (y182.toNat : Int)) → r = false) ∧ (¬ (¬ ((y180.toNat : Int) = (y182.toNat : Int))) → InR (i128 + 1) ∧ ag1 (i128 + 1)))) ∧ (¬ (i128 < (a1.length : Int)) → r = true))
def palinoderef01_Same_R (a1 : List UInt8) (b2 : List UInt8) (r : Bool) : Prop :=
  ((¬ ((a1.length : Int) = (b2.length : Int)) → r = false) ∧ (¬ (¬ ((a1.length : Int) = (b2.length : Int))) → LoopR (fun ag1 s => palinoderef01_Same_l1 a1 b2 ag1 s r) 0))
set_option maxHeartbeats 4000000 in
theorem palinoderef01_Same_con (a1 : List UInt8) (b2 : List UInt8) (r : Bool) (h : palinoderef01_Same_R a1 b2 r) : Con Try.prog 16 [.sl 1 none (List.map eb a1), .sl 1 none (List.map eb b2)] [] [] (Ret (.v (.bool r))) := by
  refine xenter Try.func16 rfl rfl fun g hg => ?_
  simp only [Try.ntmps16, slots]
  refine xseq ?_
  refine xregion ?_
  refine xvalP (pv_assign rfl) rfl rfl ?_
  refine xnil ?_
  refine xthen ?_
  refine xseq ?_
  refine xseq ?_
  refine xregion ?_
  refine xvalP (pv_move rfl) rfl rfl ?_
  refine xvalP (pv_lenM UndC.h rfl) rfl rfl ?_
  refine xvalP (pv_move rfl) rfl rfl ?_
  refine xvalP (pv_lenM UndC.h rfl) rfl rfl ?_
  refine xvalP (pv_bin2 rfl rfl rfl) rfl rfl ?_
  refine xnil ?_
  refine xthen ?_
  by_cases hp10 : ¬ ((a1.length : Int) = (b2.length : Int))
  · replace h := h.1 hp10
    refine xcondT' (not_t (decide_eq_false hp10)) rfl ?_
    refine xseq ?_
    refine xregion ?_
    refine xvalP (pv_assign rfl) rfl rfl ?_
    refine xnil ?_
    refine xthen ?_
    refine xretc ?_
    refine xthen_ret ?_
    replace h := h.symm
    subst h
    exact xret1 hg rfl rfl (.refl _) (SubM.of (.nil _) (.nil _)) ⟨rfl, rfl, rfl⟩
  · replace h := h.2 hp10
    refine xcondF' (not_f (decide_eq_true (Decidable.of_not_not hp10))) rfl ?_
    refine xskipc ?_
    refine xthen ?_
    refine xseq ?_
    refine xseq ?_
    refine xregion ?_
    refine xvalP (pv_assign rfl) rfl rfl ?_
    refine xnil ?_
    refine xthen ?_
    refine xblock ?_
    obtain ⟨Inv, ⟨m0, hI⟩, hS⟩ := h
    refine xloop (fun σ m => ∃ (i128 : Int), Inv i128 m ∧ σ = ⟨[(0, .sl 1 none (List.map eb a1)), (1, .sl 1 none (List.map eb b2)), (5, .v (.int .i64 i128))], [], []⟩) ⟨0, hI, rfl⟩ ⟨(.cons rfl (.refl _) (.cons rfl (.refl _) (.cons rfl (.refl _) (.nil _)))), (SubM.of (.nil _) (.nil _))⟩ ?_
    rintro _ m ⟨i128, hI, rfl⟩
    obtain ⟨ag1, hag1, h⟩ : ∃ ag, (∀ s', ag s' → ∃ m', m' < m ∧ Inv s' m') ∧ palinoderef01_Same_l1 a1 b2 ag i128 r := ⟨_, fun _ h => h, hS i128 _ hI⟩
    clear hS hI
    refine xseq ?_
    refine xseq ?_
    refine xregion ?_
    refine xvalP (pv_move rfl) rfl rfl ?_
    refine xvalP (pv_move rfl) rfl rfl ?_
    refine xvalP (pv_lenM UndC.h rfl) rfl rfl ?_
    refine xvalP (pv_bin2 rfl rfl rfl) rfl rfl ?_
    refine xnil ?_
    refine xthen ?_
    by_cases hp163 : i128 < (a1.length : Int)
    · replace h := h.1 hp163
      refine xcondT' (decide_eq_true hp163) rfl ?_
      refine xskipc ?_
      refine xthen ?_
      refine xseq ?_
      refine xblock ?_
      refine xseq ?_
      refine xregionD (m := 9) (by kernel_rfl) rfl ?_
      obtain ⟨h181a, h⟩ := h
      obtain ⟨y180, h181b, h⟩ := h
      obtain ⟨h183a, h⟩ := h
      obtain ⟨y182, h183b, h⟩ := h
      refine xpval 0 rfl (pv_move rfl) rfl rfl (by kernel_rfl) (by kernel_rfl) (by kernel_rfl) (fun _ _ _ _ h => h) ?_
      refine xpval 1 rfl (pv_move rfl) rfl rfl (by kernel_rfl) (by kernel_rfl) (by kernel_rfl) (fun _ _ _ _ h => h) ?_
      refine xpval 2 rfl (pv_indexAddrM h181a h181b UndC.h ShpC.h rfl rfl) rfl rfl (by kernel_rfl) (by kernel_rfl) (by kernel_rfl) (fun _ _ _ _ h => h) ?_
      refine xpval 4 rfl (pv_move rfl) rfl rfl (by kernel_rfl) (by kernel_rfl) (by kernel_rfl) (fun _ _ _ _ h => h) ?_
      refine xpval 5 rfl (pv_move rfl) rfl rfl (by kernel_rfl) (by kernel_rfl) (by kernel_rfl) (fun _ _ _ _ h => h) ?_
      refine xpval 6 rfl (pv_indexAddrM h183a h183b UndC.h ShpC.h rfl rfl) rfl rfl (by kernel_rfl) (by kernel_rfl) (by kernel_rfl) (fun _ _ _ _ h => h) ?_
      refine xpvalE 3 [7] rfl (qv_load ShpC.h rfl rfl rfl) rfl rfl (by kernel_rfl) (by kernel_rfl) (by kernel_rfl) (fun _ _ _ _ h => h) ?_
      refine xpvalE 7 [] rfl (qv_load ShpC.h rfl rfl rfl) rfl rfl (by kernel_rfl) (by kernel_rfl) (by kernel_rfl) (fun _ _ _ _ h => h) ?_
      refine xpval 8 rfl (pv_bin2 rfl rfl rfl) rfl rfl (by kernel_rfl) (by kernel_rfl) (by kernel_rfl) (fun _ _ _ _ h => h) ?_
      refine xpdone (by kernel_rfl) ?_
      refine xthen ?_
      by_cases hp185 : ¬ ((y180.toNat : Int) = (y182.toNat : Int))
      · replace h := h.1 hp185
        refine xcondT' (not_t (decide_eq_false hp185)) rfl ?_
        refine xseq ?_
        refine xregion ?_
        refine xvalP (pv_assign rfl) rfl rfl ?_
        refine xnil ?_
        refine xthen ?_
        refine xretc ?_
        refine xin_ret ?_
        refine xthen_ret ?_
        refine xthen_ret ?_
        refine xin_ret ?_
        refine xthen_ret ?_
        replace h := h.symm
        subst h
        exact xret1 hg rfl rfl (.refl _) (SubM.of (.nil _) (.nil _)) ⟨rfl, rfl, rfl⟩
      · replace h := h.2 hp185
        refine xcondF' (not_f (decide_eq_true (Decidable.of_not_not hp185))) rfl ?_
        refine xskipc ?_
        refine xin_normal ?_
        refine xthen ?_
        refine xregion ?_
        refine xvalP (pv_move rfl) rfl rfl ?_
        obtain ⟨h186, h⟩ := h
        refine xvalP (pv_addI h186 rfl rfl) rfl rfl ?_
        refine xvalP (pv_assign rfl) rfl rfl ?_
        refine xnil ?_
        obtain ⟨m', hm, hI⟩ := hag1 _ h
        exact xagain ⟨(i128 + 1), hI, rfl⟩ hm ⟨(.cons rfl (.refl _) (.cons rfl (.refl _) (.cons rfl (.refl _) (.nil _)))), (SubM.of (.nil _) (.nil _))⟩
    · replace h := h.2 hp163
      refine xcondF' (decide_eq_false hp163) rfl ?_
      refine xexit ?_
      refine xthen_exit ?_
      refine xthen_exit ?_
      refine xin_same rfl ?_
      refine xthen ?_
      refine xseq ?_
      refine xregion ?_
      refine xvalP (pv_assign rfl) rfl rfl ?_
      refine xnil ?_
      refine xthen ?_
      refine xretc ?_
      replace h := h.symm
      subst h
      exact xret1 hg rfl rfl (.refl _) (SubM.of (.nil _) (.nil _)) ⟨rfl, rfl, rfl⟩
/-- (*scan.Cursor).Rest$1 -/
def scan_Cursor_Rest_c1_R (b1 : UInt8) (r : Bool) : Prop :=
  r = (!(decide ((b1.toNat : Int) = 10)))
set_option maxHeartbeats 4000000 in
theorem scan_Cursor_Rest_c1_con (b1 : UInt8) (r : Bool) (h : scan_Cursor_Rest_c1_R b1 r) : Con Try.prog 28 [.v (.int .u8 ((b1.toNat : Int)))] [] [] (Ret (.v (.bool r))) := by
  refine xenter Try.func28 rfl rfl fun g hg => ?_
  simp only [Try.ntmps28, slots]
  refine xseq ?_
  refine xregion ?_
  refine xvalP (pv_assign rfl) rfl rfl ?_
  refine xnil ?_
  refine xthen ?_
  refine xseq ?_
  refine xregion ?_
  refine xvalP (pv_move rfl) rfl rfl ?_
  refine xvalP (pv_bin2 rfl rfl rfl) rfl rfl ?_
  refine xvalP (pv_assign rfl) rfl rfl ?_
  refine xnil ?_
  refine xthen ?_
  refine xretc ?_
  replace h := h.symm
  subst h
  exact xret1 hg rfl rfl (.refl _) (SubM.of (.nil _) (.nil _)) ⟨rfl, rfl, rfl⟩
/-- (*scan.Cursor).while -/
def scan_Cursor_while_j1 (o1 : (List UInt8) × Int) (f99 : Int) (r : (List UInt8) × ((List UInt8) × Int)) : Prop :=
  (0 ≤ (o1.2 : Int) ∧ (o1.2 : Int) ≤ (f99 : Int) ∧ (f99 : Int) ≤ (o1.1.length : Int)) ∧ ∃ y200 : (List UInt8), slices_Clone_R ((o1.1.take (f99 : Int).toNat).drop (o1.2 : Int).toNat) y200 ∧ r = (y200, (o1.1, f99))
def scan_Cursor_while_l2 (o1 : (List UInt8) × Int) (ag2 : (Int) → Prop) (f131 : Int) (r : (List UInt8) × ((List UInt8) × Int)) : Prop :=
  ((f131 < (o1.1.length : Int) → 0 ≤ (f131 : Int) ∧ ∃ y188 : UInt8, o1.1[(f131 : Int).toNat]? = some y188 ∧ ∃ y191 : Bool, scan_Cursor_Rest_c1_R y188 y191 ∧ ((y191 = true → InR (f131 + 1) ∧ ag2 (f131 + 1)) ∧ (¬ (y191 = true) → scan_Cursor_while_j1 o1 f131 r))) ∧ (¬ (f131 < (o1.1.length : Int)) → scan_Cursor_while_j1 o1 f131 r))
def scan_Cursor_while_R (o1 : (List UInt8) × Int) (r : (List UInt8) × ((List UInt8) × Int)) : Prop :=
  LoopR (fun ag2 s => scan_Cursor_while_l2 o1 ag2 s r) o1.2
set_option maxHeartbeats 4000000 in
theorem scan_Cursor_while_con (o1 : (List UInt8) × Int) (bx0 : Nat) (ia2 : Option (Nat × Nat)) (r : (List UInt8) × ((List UInt8) × Int)) (h : scan_Cursor_while_R o1 r) : Con Try.prog 27 [.v (.pointer (some ⟨bx0, 0, none⟩)), .v (.func (.func 28) #[] #[])] [⟨bx0, 45, [.sl 1 (some ia2) (List.map eb o1.1), .v (.int .i64 o1.2)]⟩] [⟨ia2, 5, 1, o1.1.length⟩] (fun rr bx tk => ∃ j1, ∃ j2, rr = .sl 1 (some j1) (List.map eb r.1) ∧ bx = [⟨bx0, 45, [.sl 1 (some j2) (List.map eb r.2.1), .v (.int .i64 r.2.2)]⟩] ∧ tk = [⟨j1, 5, 1, r.1.length⟩, ⟨j2, 5, 1, r.2.1.length⟩]) := by
  refine xenter Try.func27 rfl rfl fun g hg => ?_
  simp only [Try.ntmps27, slots]
  refine xseq ?_
  refine xregion ?_
  refine xvalP (pv_assign rfl) rfl rfl ?_
  refine xnil ?_
  refine xthen ?_
  refine xseq ?_
  refine xseq ?_
  refine xregion ?_
  refine xvalP (pv_move rfl) rfl rfl ?_
  refine xvalP (pv_eqNil UndC.h rfl rfl) rfl rfl ?_
  refine xnil ?_
  refine xthen ?_
  refine xcondF rfl ?_
  refine xskipc ?_
  refine xthen ?_
  refine xseq ?_
  refine xregion ?_
  refine xvalP (pv_move rfl) rfl rfl ?_
  refine xvalP (pv_nilCheck rfl) rfl rfl ?_
  refine xvalP (qv_fieldAddrB FldC.h rfl) rfl rfl ?_
  refine xval (qv_loadB 0 ShpC.h rfl rfl rfl rfl) rfl rfl ?_
  refine xvalP (pv_assign rfl) rfl rfl ?_
  refine xnil ?_
  refine xthen ?_
  refine xseqM (fun σ => ∃ (f99 : Int), scan_Cursor_while_j1 o1 f99 r ∧ σ = ⟨[(0, .v (.pointer (some ⟨bx0, 0, none⟩))), (5, .v (.int .i64 o1.2))], [⟨bx0, 45, [.sl 1 (some ia2) (List.map eb o1.1), .v (.int .i64 f99)]⟩], [⟨ia2, 5, 1, o1.1.length⟩]⟩) ?_ ?_
  · refine xblock ?_
    obtain ⟨Inv, ⟨m0, hI⟩, hS⟩ := h
    refine xloop (fun σ m => ∃ (f131 : Int), Inv f131 m ∧ σ = ⟨[(0, .v (.pointer (some ⟨bx0, 0, none⟩))), (1, .v (.func (.func 28) #[] #[])), (5, .v (.int .i64 o1.2))], [⟨bx0, 45, [.sl 1 (some ia2) (List.map eb o1.1), .v (.int .i64 f131)]⟩], [⟨ia2, 5, 1, o1.1.length⟩]⟩) ⟨o1.2, hI, rfl⟩ ⟨(.cons rfl (.refl _) (.cons rfl (.refl _) (.cons rfl (.refl _) (.nil _)))), (SubM.of (.keep rfl rfl (.refl _) (.nil _)) (.keep rfl (.nil _)))⟩ ?_
    rintro _ m ⟨f131, hI, rfl⟩
    obtain ⟨ag2, hag2, h⟩ : ∃ ag, (∀ s', ag s' → ∃ m', m' < m ∧ Inv s' m') ∧ scan_Cursor_while_l2 o1 ag f131 r := ⟨_, fun _ h => h, hS f131 _ hI⟩
    clear hS hI
    refine xseq ?_
    refine xseq ?_
    refine xregionD (m := 24) (by kernel_rfl) rfl ?_
    refine xpval 0 rfl (pv_move rfl) rfl rfl (by kernel_rfl) (by kernel_rfl) (by kernel_rfl) (fun _ _ _ _ h => h) ?_
    refine xpval 1 rfl (pv_nilCheck rfl) rfl rfl (by kernel_rfl) (by kernel_rfl) (by kernel_rfl) (fun _ _ _ _ h => h) ?_
    refine xpval 2 rfl (qv_fieldAddrB FldC.h rfl) rfl rfl (by kernel_rfl) (by kernel_rfl) (by kernel_rfl) (fun _ _ _ _ h => h) ?_
    refine xpval 4 rfl (pv_move rfl) rfl rfl (by kernel_rfl) (by kernel_rfl) (by kernel_rfl) (fun _ _ _ _ h => h) ?_
    refine xpval 5 rfl (pv_nilCheck rfl) rfl rfl (by kernel_rfl) (by kernel_rfl) (by kernel_rfl) (fun _ _ _ _ h => h) ?_
    refine xpval 6 rfl (qv_fieldAddrB FldC.h rfl) rfl rfl (by kernel_rfl) (by kernel_rfl) (by kernel_rfl) (fun _ _ _ _ h => h) ?_
    refine xpvalE 3 [7, 8] rfl (qv_loadB 0 ShpC.h rfl rfl rfl rfl) rfl rfl (by kernel_rfl) (by kernel_rfl) (by kernel_rfl) (fun _ _ _ _ h => h) ?_
    refine xpvalE 7 [] rfl (qv_loadB 0 ShpC.h rfl rfl rfl rfl) rfl rfl (by kernel_rfl) (by kernel_rfl) (by kernel_rfl) (fun _ _ _ _ h => h) ?_
    refine xpval 8 rfl (pv_lenM UndC.h rfl) rfl rfl (by kernel_rfl) (by kernel_rfl) (by kernel_rfl) (fun _ _ _ _ h => h) ?_
    refine xpval 9 rfl (pv_bin2 rfl rfl rfl) rfl rfl (by kernel_rfl) (by kernel_rfl) (by kernel_rfl) (fun _ _ _ _ h => h) ?_
    refine xpval 10 rfl (pv_move rfl) rfl rfl (by kernel_rfl) (by kernel_rfl) (by kernel_rfl) (fun _ _ _ _ h => h) ?_
    by_cases hp187 : f131 < (o1.1.length : Int)
    · replace h := h.1 hp187
      refine psetB 22 (decide_eq_true hp187) rfl ?_
      obtain ⟨h189a, h⟩ := h
      obtain ⟨y188, h189b, h⟩ := h
      obtain ⟨y191, h190, h⟩ := h
      refine xpval 11 rfl (pv_move rfl) rfl rfl (by kernel_rfl) (by kernel_rfl) (by kernel_rfl) (fun _ _ _ _ h => h) ?_
      refine xpval 12 rfl (pv_move rfl) rfl rfl (by kernel_rfl) (by kernel_rfl) (by kernel_rfl) (fun _ _ _ _ h => h) ?_
      refine xpval 13 rfl (pv_nilCheck rfl) rfl rfl (by kernel_rfl) (by kernel_rfl) (by kernel_rfl) (fun _ _ _ _ h => h) ?_
      refine xpval 14 rfl (qv_fieldAddrB FldC.h rfl) rfl rfl (by kernel_rfl) (by kernel_rfl) (by kernel_rfl) (fun _ _ _ _ h => h) ?_
      refine xpval 16 rfl (pv_move rfl) rfl rfl (by kernel_rfl) (by kernel_rfl) (by kernel_rfl) (fun _ _ _ _ h => h) ?_
      refine xpval 17 rfl (pv_nilCheck rfl) rfl rfl (by kernel_rfl) (by kernel_rfl) (by kernel_rfl) (fun _ _ _ _ h => h) ?_
      refine xpval 18 rfl (qv_fieldAddrB FldC.h rfl) rfl rfl (by kernel_rfl) (by kernel_rfl) (by kernel_rfl) (fun _ _ _ _ h => h) ?_
      refine xpvalE 15 [19] rfl (qv_loadB 0 ShpC.h rfl rfl rfl rfl) rfl rfl (by kernel_rfl) (by kernel_rfl) (by kernel_rfl) (fun _ _ _ _ h => h) ?_
      refine xpvalE 19 [] rfl (qv_loadB 0 ShpC.h rfl rfl rfl rfl) rfl rfl (by kernel_rfl) (by kernel_rfl) (by kernel_rfl) (fun _ _ _ _ h => h) ?_
      refine xpval 20 rfl (pv_indexAddrM h189a h189b UndC.h ShpC.h rfl rfl) rfl rfl (by kernel_rfl) (by kernel_rfl) (by kernel_rfl) (fun _ _ _ _ h => h) ?_
      refine xpvalE 21 [] rfl (qv_load ShpC.h rfl rfl rfl) rfl rfl (by kernel_rfl) (by kernel_rfl) (by kernel_rfl) (fun _ _ _ _ h => h) ?_
      refine xpstep (i := 22) (by kernel_rfl) rfl ?_
      refine wcallV (sa := [.v (.int .u8 ((y188.toNat : Int)))]) (Fb := [⟨bx0, 45, [.sl 1 (some ia2) (List.map eb o1.1), .v (.int .i64 f131)]⟩]) (Ft := [⟨ia2, 5, 1, o1.1.length⟩]) (scan_Cursor_Rest_c1_con y188 _ h190) Try.func28 (by kernel_rfl) rfl rfl (.cons rfl (.refl _) .nil) rfl (by exact (SubM.of (by repeat (first | with_reducible exact SubB.refl _ | exact SubB.nil _ | refine SubB.keep rfl rfl (by first | with_reducible exact WkL.refl _ | ((repeat (first | exact WkL.nil | refine WkL.cons (by first | with_reducible exact Wk.refl _ | exact Wk.nil_own _ | exact Wk.nil_pl _ | with_reducible exact Wk.tok _ _ _ | exact Wk.tok _ _ _ | exact Wk.eq (by first | rfl | (simp []; done) | (simp []; omega))) ?_)); done) | exact WkL.refl _) ?_ | refine SubB.drop ?_)) (by repeat (first | exact SubT.nil _ | refine SubT.add ?_ | (refine SubT.keep ?_ ?_; focus (first | with_reducible rfl | (simp []; done))) | refine SubT.drop ?_)))) rfl rfl ?_
      rintro _ _ _ ⟨rfl, rfl, rfl⟩
      simp only [List.nil_append, List.cons_append]
      refine xpval 23 rfl (pv_pick rfl rfl) rfl rfl (by kernel_rfl) (by kernel_rfl) (by kernel_rfl) (fun _ _ _ _ h => h) ?_
      refine xpdone (by kernel_rfl) ?_
      refine xthen ?_
      by_cases hp192 : y191 = true
      · replace h := h.1 hp192
        refine xcondT' hp192 rfl ?_
        refine xskipc ?_
        refine xthen ?_
        refine xblock ?_
        refine xregion ?_
        refine xvalP (pv_move rfl) rfl rfl ?_
        refine xvalP (pv_nilCheck rfl) rfl rfl ?_
        refine xvalP (qv_fieldAddrB FldC.h rfl) rfl rfl ?_
        refine xval (qv_loadB 0 ShpC.h rfl rfl rfl rfl) rfl rfl ?_
        obtain ⟨h193, h⟩ := h
        refine xvalP (pv_addI h193 rfl rfl) rfl rfl ?_
        refine xvalP (pv_nilCheck rfl) rfl rfl ?_
        refine xvalP (qv_fieldAddrB FldC.h rfl) rfl rfl ?_
        refine xstore 0 ShpC.h rfl rfl rfl rfl rfl rfl rfl ?_
        refine xnil ?_
        refine xin_normal ?_
        obtain ⟨m', hm, hI⟩ := hag2 _ h
        exact xagain ⟨(f131 + 1), hI, rfl⟩ hm ⟨(.cons rfl (.refl _) (.cons rfl (.refl _) (.cons rfl (.refl _) (.nil _)))), (SubM.of (.keep rfl rfl (.refl _) (.nil _)) (.keep rfl (.nil _)))⟩
      · replace h := h.2 hp192
        refine xcondF' (b_f hp192) rfl ?_
        refine xexit ?_
        refine xthen_exit ?_
        refine xthen_exit ?_
        refine xin_same rfl ?_
        exact xmeet ⟨f131, h, rfl⟩ ⟨(.cons rfl (.refl _) (.cons rfl (.refl _) (.nil _))), (SubM.of (.keep rfl rfl (.refl _) (.nil _)) (.keep rfl (.nil _)))⟩
    · replace h := h.2 hp187
      refine psetB 22 (decide_eq_false hp187) rfl ?_
      refine xpskip 11 rfl rfl rfl (by kernel_rfl) (by kernel_rfl) (by kernel_rfl) (fun _ _ _ _ h => h) ?_
      refine xpskip 12 rfl rfl rfl (by kernel_rfl) (by kernel_rfl) (by kernel_rfl) (fun _ _ _ _ h => h) ?_
      refine xpskip 13 rfl rfl rfl (by kernel_rfl) (by kernel_rfl) (by kernel_rfl) (fun _ _ _ _ h => h) ?_
      refine xpskip 14 rfl rfl rfl (by kernel_rfl) (by kernel_rfl) (by kernel_rfl) (fun _ _ _ _ h => h) ?_
      refine xpskip 15 rfl rfl rfl (by kernel_rfl) (by kernel_rfl) (by kernel_rfl) (fun _ _ _ _ h => h) ?_
      refine xpskip 16 rfl rfl rfl (by kernel_rfl) (by kernel_rfl) (by kernel_rfl) (fun _ _ _ _ h => h) ?_
      refine xpskip 17 rfl rfl rfl (by kernel_rfl) (by kernel_rfl) (by kernel_rfl) (fun _ _ _ _ h => h) ?_
      refine xpskip 18 rfl rfl rfl (by kernel_rfl) (by kernel_rfl) (by kernel_rfl) (fun _ _ _ _ h => h) ?_
      refine xpskip 19 rfl rfl rfl (by kernel_rfl) (by kernel_rfl) (by kernel_rfl) (fun _ _ _ _ h => h) ?_
      refine xpskip 20 rfl rfl rfl (by kernel_rfl) (by kernel_rfl) (by kernel_rfl) (fun _ _ _ _ h => h) ?_
      refine xpskip 21 rfl rfl rfl (by kernel_rfl) (by kernel_rfl) (by kernel_rfl) (fun _ _ _ _ h => h) ?_
      refine xpskip 22 rfl rfl rfl (by kernel_rfl) (by kernel_rfl) (by kernel_rfl) (fun _ _ _ _ h => h) ?_
      refine xpval 23 rfl (pv_pick rfl rfl) rfl rfl (by kernel_rfl) (by kernel_rfl) (by kernel_rfl) (fun _ _ _ _ h => h) ?_
      refine xpdone (by kernel_rfl) ?_
      refine xthen ?_
      refine xcondF rfl ?_
      refine xexit ?_
      refine xthen_exit ?_
      refine xthen_exit ?_
      refine xin_same rfl ?_
      exact xmeet ⟨f131, h, rfl⟩ ⟨(.cons rfl (.refl _) (.cons rfl (.refl _) (.nil _))), (SubM.of (.keep rfl rfl (.refl _) (.nil _)) (.keep rfl (.nil _)))⟩
  · clear h
    rintro _ ⟨f99, h, rfl⟩
    refine xseq ?_
    refine xregionD (m := 12) (by kernel_rfl) rfl ?_
    obtain ⟨h198, h⟩ := h
    obtain ⟨y200, h199, h⟩ := h
    refine xpval 0 rfl (pv_move rfl) rfl rfl (by kernel_rfl) (by kernel_rfl) (by kernel_rfl) (fun _ _ _ _ h => h) ?_
    refine xpval 1 rfl (pv_nilCheck rfl) rfl rfl (by kernel_rfl) (by kernel_rfl) (by kernel_rfl) (fun _ _ _ _ h => h) ?_
    refine xpval 2 rfl (qv_fieldAddrB FldC.h rfl) rfl rfl (by kernel_rfl) (by kernel_rfl) (by kernel_rfl) (fun _ _ _ _ h => h) ?_
    refine xpval 4 rfl (pv_move rfl) rfl rfl (by kernel_rfl) (by kernel_rfl) (by kernel_rfl) (fun _ _ _ _ h => h) ?_
    refine xpval 5 rfl (pv_move rfl) rfl rfl (by kernel_rfl) (by kernel_rfl) (by kernel_rfl) (fun _ _ _ _ h => h) ?_
    refine xpval 6 rfl (pv_nilCheck rfl) rfl rfl (by kernel_rfl) (by kernel_rfl) (by kernel_rfl) (fun _ _ _ _ h => h) ?_
    refine xpval 7 rfl (qv_fieldAddrB FldC.h rfl) rfl rfl (by kernel_rfl) (by kernel_rfl) (by kernel_rfl) (fun _ _ _ _ h => h) ?_
    refine xpvalE 3 [8] rfl (qv_loadB 0 ShpC.h rfl rfl rfl rfl) rfl rfl (by kernel_rfl) (by kernel_rfl) (by kernel_rfl) (fun _ _ _ _ h => h) ?_
    refine xpvalE 8 [] rfl (qv_loadB 0 ShpC.h rfl rfl rfl rfl) rfl rfl (by kernel_rfl) (by kernel_rfl) (by kernel_rfl) (fun _ _ _ _ h => h) ?_
    refine xpval 9 rfl (pv_sliceLH h198 UndC.h ShpC.h rfl rfl rfl) rfl rfl (by kernel_rfl) (by kernel_rfl) (by kernel_rfl) (fun _ _ _ _ h => h) ?_
    refine xpstep (i := 10) (by kernel_rfl) rfl ?_
    refine wcallM (slices_Clone_con ((o1.1.take (f99 : Int).toNat).drop (o1.2 : Int).toNat) _ h199) Try.func23 (by kernel_rfl) rfl (.cons rfl (.refl _) .nil) rfl rfl fun i201 => ?_
    refine xpval 11 rfl (pv_assign rfl) rfl rfl (by kernel_rfl) (by kernel_rfl) (by kernel_rfl) (fun _ _ _ _ h => h) ?_
    refine xpdone (by kernel_rfl) ?_
    refine xthen ?_
    refine xretc ?_
    replace h := h.symm
    subst h
    exact xret1 hg rfl rfl (.refl _) (SubM.of (.keep rfl rfl (.refl _) (.nil _)) (.keep rfl (.keep rfl (.nil _)))) ⟨i201, ia2, rfl, rfl, rfl⟩
/-- (*scan.Cursor).Peek -/
def scan_Cursor_Peek_R (o1 : (List UInt8) × Int) (r : UInt8 × Bool) : Prop :=
  ((o1.2 = (o1.1.length : Int) → r = ((0 : UInt8), false)) ∧ (¬ (o1.2 = (o1.1.length : Int)) → 0 ≤ (o1.2 : Int) ∧ ∃ y19 : UInt8, o1.1[(o1.2 : Int).toNat]? = some y19 ∧ r = (y19, true)))
set_option maxHeartbeats 4000000 in
theorem scan_Cursor_Peek_con (o1 : (List UInt8) × Int) (bx0 : Nat) (ia2 : Option (Nat × Nat)) (r : UInt8 × Bool) (h : scan_Cursor_Peek_R o1 r) : Con Try.prog 18 [.v (.pointer (some ⟨bx0, 0, none⟩))] [⟨bx0, 45, [.sl 1 (some ia2) (List.map eb o1.1), .v (.int .i64 o1.2)]⟩] [⟨ia2, 5, 1, o1.1.length⟩] (fun rr bx tk => rr = .tup [.v (.int .u8 ((r.1.toNat : Int))), .v (.bool r.2)] ∧ bx = [⟨bx0, 45, [.sl 1 (some ia2) (List.map eb o1.1), .v (.int .i64 o1.2)]⟩] ∧ tk = [⟨ia2, 5, 1, o1.1.length⟩]) := by
  refine xenter Try.func18 rfl rfl fun g hg => ?_
  simp only [Try.ntmps18, slots]
  refine xseq ?_
  refine xregion ?_
  refine xvalP (pv_assign rfl) rfl rfl ?_
  refine xvalP (pv_assign rfl) rfl rfl ?_
  refine xnil ?_
  refine xthen ?_
  refine xseq ?_
  refine xseq ?_
  refine xregionD (m := 14) (by kernel_rfl) rfl ?_
  refine xpval 0 rfl (pv_move rfl) rfl rfl (by kernel_rfl) (by kernel_rfl) (by kernel_rfl) (fun _ _ _ _ h => h) ?_
  refine xpval 1 rfl (pv_eqNil UndC.h rfl rfl) rfl rfl (by kernel_rfl) (by kernel_rfl) (by kernel_rfl) (fun _ _ _ _ h => h) ?_
  refine xpval 2 rfl (pv_move rfl) rfl rfl (by kernel_rfl) (by kernel_rfl) (by kernel_rfl) (fun _ _ _ _ h => h) ?_
  refine xpval 3 rfl (pv_move rfl) rfl rfl (by kernel_rfl) (by kernel_rfl) (by kernel_rfl) (fun _ _ _ _ h => h) ?_
  refine xpval 4 rfl (pv_nilCheck rfl) rfl rfl (by kernel_rfl) (by kernel_rfl) (by kernel_rfl) (fun _ _ _ _ h => h) ?_
  refine xpval 5 rfl (qv_fieldAddrB FldC.h rfl) rfl rfl (by kernel_rfl) (by kernel_rfl) (by kernel_rfl) (fun _ _ _ _ h => h) ?_
  refine xpval 7 rfl (pv_move rfl) rfl rfl (by kernel_rfl) (by kernel_rfl) (by kernel_rfl) (fun _ _ _ _ h => h) ?_
  refine xpval 8 rfl (pv_nilCheck rfl) rfl rfl (by kernel_rfl) (by kernel_rfl) (by kernel_rfl) (fun _ _ _ _ h => h) ?_
  refine xpval 9 rfl (qv_fieldAddrB FldC.h rfl) rfl rfl (by kernel_rfl) (by kernel_rfl) (by kernel_rfl) (fun _ _ _ _ h => h) ?_
  refine xpvalE 6 [10, 11] rfl (qv_loadB 0 ShpC.h rfl rfl rfl rfl) rfl rfl (by kernel_rfl) (by kernel_rfl) (by kernel_rfl) (fun _ _ _ _ h => h) ?_
  refine xpvalE 10 [] rfl (qv_loadB 0 ShpC.h rfl rfl rfl rfl) rfl rfl (by kernel_rfl) (by kernel_rfl) (by kernel_rfl) (fun _ _ _ _ h => h) ?_
  refine xpval 11 rfl (pv_lenM UndC.h rfl) rfl rfl (by kernel_rfl) (by kernel_rfl) (by kernel_rfl) (fun _ _ _ _ h => h) ?_
  refine xpval 12 rfl (pv_bin2 rfl rfl rfl) rfl rfl (by kernel_rfl) (by kernel_rfl) (by kernel_rfl) (fun _ _ _ _ h => h) ?_
  refine xpval 13 rfl (pv_pick rfl rfl) rfl rfl (by kernel_rfl) (by kernel_rfl) (by kernel_rfl) (fun _ _ _ _ h => h) ?_
  refine xpdone (by kernel_rfl) ?_
  refine xthen ?_
  by_cases hp16 : o1.2 = (o1.1.length : Int)
  · replace h := h.1 hp16
    refine xcondT' (decide_eq_true hp16) rfl ?_
    refine xseq ?_
    refine xregion ?_
    refine xvalP (pv_assign rfl) rfl rfl ?_
    refine xvalP (pv_assign rfl) rfl rfl ?_
    refine xnil ?_
    refine xthen ?_
    refine xretc ?_
    refine xthen_ret ?_
    replace h := h.symm
    subst h
    exact xret2 hg rfl rfl (.eq rfl) rfl (.refl _) (SubM.of (.keep rfl rfl (.refl _) (.nil _)) (.keep rfl (.nil _))) ⟨rfl, rfl, rfl⟩
  · replace h := h.2 hp16
    refine xcondF' (decide_eq_false hp16) rfl ?_
    refine xskipc ?_
    refine xthen ?_
    refine xseq ?_
    refine xregionD (m := 12) (by kernel_rfl) rfl ?_
    obtain ⟨h20a, h⟩ := h
    obtain ⟨y19, h20b, h⟩ := h
    refine xpval 0 rfl (pv_move rfl) rfl rfl (by kernel_rfl) (by kernel_rfl) (by kernel_rfl) (fun _ _ _ _ h => h) ?_
    refine xpval 1 rfl (pv_nilCheck rfl) rfl rfl (by kernel_rfl) (by kernel_rfl) (by kernel_rfl) (fun _ _ _ _ h => h) ?_
    refine xpval 2 rfl (qv_fieldAddrB FldC.h rfl) rfl rfl (by kernel_rfl) (by kernel_rfl) (by kernel_rfl) (fun _ _ _ _ h => h) ?_
    refine xpval 4 rfl (pv_move rfl) rfl rfl (by kernel_rfl) (by kernel_rfl) (by kernel_rfl) (fun _ _ _ _ h => h) ?_
    refine xpval 5 rfl (pv_nilCheck rfl) rfl rfl (by kernel_rfl) (by kernel_rfl) (by kernel_rfl) (fun _ _ _ _ h => h) ?_
    refine xpval 6 rfl (qv_fieldAddrB FldC.h rfl) rfl rfl (by kernel_rfl) (by kernel_rfl) (by kernel_rfl) (fun _ _ _ _ h => h) ?_
    refine xpvalE 3 [7] rfl (qv_loadB 0 ShpC.h rfl rfl rfl rfl) rfl rfl (by kernel_rfl) (by kernel_rfl) (by kernel_rfl) (fun _ _ _ _ h => h) ?_
    refine xpvalE 7 [] rfl (qv_loadB 0 ShpC.h rfl rfl rfl rfl) rfl rfl (by kernel_rfl) (by kernel_rfl) (by kernel_rfl) (fun _ _ _ _ h => h) ?_
    refine xpval 8 rfl (pv_indexAddrM h20a h20b UndC.h ShpC.h rfl rfl) rfl rfl (by kernel_rfl) (by kernel_rfl) (by kernel_rfl) (fun _ _ _ _ h => h) ?_
    refine xpvalE 9 [] rfl (qv_load ShpC.h rfl rfl rfl) rfl rfl (by kernel_rfl) (by kernel_rfl) (by kernel_rfl) (fun _ _ _ _ h => h) ?_
    refine xpval 10 rfl (pv_assign rfl) rfl rfl (by kernel_rfl) (by kernel_rfl) (by kernel_rfl) (fun _ _ _ _ h => h) ?_
    refine xpval 11 rfl (pv_assign rfl) rfl rfl (by kernel_rfl) (by kernel_rfl) (by kernel_rfl) (fun _ _ _ _ h => h) ?_
    refine xpdone (by kernel_rfl) ?_
    refine xthen ?_
    refine xretc ?_
    replace h := h.symm
    subst h
    exact xret2 hg rfl rfl (.eq rfl) rfl (.refl _) (SubM.of (.keep rfl rfl (.refl _) (.nil _)) (.keep rfl (.nil _))) ⟨rfl, rfl, rfl⟩
/-- (*scan.Cursor).Next -/
def scan_Cursor_Next_j1 (y4 : UInt8 × Bool) (o1 : (List UInt8) × Int) (f7 : Int) (r : UInt8 × Bool × ((List UInt8) × Int)) : Prop :=
  r = (y4.1, y4.2, (o1.1, f7))
def scan_Cursor_Next_R (o1 : (List UInt8) × Int) (r : UInt8 × Bool × ((List UInt8) × Int)) : Prop :=
  ∃ y4 : UInt8 × Bool, scan_Cursor_Peek_R (o1.1, o1.2) y4 ∧ ((y4.2 = true → InR (o1.2 + 1) ∧ scan_Cursor_Next_j1 y4 o1 (o1.2 + 1) r) ∧ (¬ (y4.2 = true) → scan_Cursor_Next_j1 y4 o1 o1.2 r))
set_option maxHeartbeats 4000000 in
theorem scan_Cursor_Next_con (o1 : (List UInt8) × Int) (bx0 : Nat) (ia2 : Option (Nat × Nat)) (r : UInt8 × Bool × ((List UInt8) × Int)) (h : scan_Cursor_Next_R o1 r) : Con Try.prog 19 [.v (.pointer (some ⟨bx0, 0, none⟩))] [⟨bx0, 45, [.sl 1 (some ia2) (List.map eb o1.1), .v (.int .i64 o1.2)]⟩] [⟨ia2, 5, 1, o1.1.length⟩] (fun rr bx tk => rr = .tup [.v (.int .u8 ((r.1.toNat : Int))), .v (.bool r.2.1)] ∧ bx = [⟨bx0, 45, [.sl 1 none (List.map eb r.2.2.1), .v (.int .i64 r.2.2.2)]⟩] ∧ tk = []) := by
  refine xenter Try.func19 rfl rfl fun g hg => ?_
  simp only [Try.ntmps19, slots]
  refine xseq ?_
  refine xregion ?_
  refine xvalP (pv_assign rfl) rfl rfl ?_
  refine xvalP (pv_assign rfl) rfl rfl ?_
  refine xnil ?_
  refine xthen ?_
  refine xseq ?_
  refine xregion ?_
  refine xvalP (pv_move rfl) rfl rfl ?_
  obtain ⟨y4, h3, h⟩ := h
  refine xcallF (Fb := []) (Ft := []) (scan_Cursor_Peek_con (o1.1, o1.2) bx0 ia2 _ h3) Try.func18 (by kernel_rfl) rfl (.cons rfl (.refl _) .nil) (by exact (SubM.of (by repeat (first | with_reducible exact SubB.refl _ | exact SubB.nil _ | refine SubB.keep rfl rfl (by first | with_reducible exact WkL.refl _ | ((repeat (first | exact WkL.nil | refine WkL.cons (by first | with_reducible exact Wk.refl _ | exact Wk.nil_own _ | exact Wk.nil_pl _ | with_reducible exact Wk.tok _ _ _ | exact Wk.tok _ _ _ | exact Wk.eq (by first | rfl | (simp []; done) | (simp []; omega))) ?_)); done) | exact WkL.refl _) ?_ | refine SubB.drop ?_)) (by repeat (first | exact SubT.nil _ | refine SubT.add ?_ | (refine SubT.keep ?_ ?_; focus (first | with_reducible rfl | (simp []; done))) | refine SubT.drop ?_)))) rfl rfl ?_
  rintro _ _ _ ⟨rfl, rfl, rfl⟩
  simp only [List.nil_append, List.cons_append]
  refine xvalP (pv_move rfl) rfl rfl ?_
  refine xvalP (pv_extract rfl rfl) rfl rfl ?_
  refine xvalP (pv_extract rfl rfl) rfl rfl ?_
  refine xvalP (pv_assign rfl) rfl rfl ?_
  refine xvalP (pv_assign rfl) rfl rfl ?_
  refine xnil ?_
  refine xthen ?_
  refine xseqM (fun σ => ∃ (f7 : Int), scan_Cursor_Next_j1 y4 o1 f7 r ∧ σ = ⟨[(4, .v (.int .u8 ((y4.1.toNat : Int)))), (5, .v (.bool y4.2))], [⟨bx0, 45, [.sl 1 none (List.map eb o1.1), .v (.int .i64 f7)]⟩], []⟩) ?_ ?_
  · refine xseq ?_
    refine xregion ?_
    refine xvalP (pv_move rfl) rfl rfl ?_
    refine xnil ?_
    refine xthen ?_
    by_cases hp8 : y4.2 = true
    · replace h := h.1 hp8
      refine xcondT' hp8 rfl ?_
      refine xregion ?_
      refine xvalP (pv_move rfl) rfl rfl ?_
      refine xvalP (pv_nilCheck rfl) rfl rfl ?_
      refine xvalP (qv_fieldAddrB FldC.h rfl) rfl rfl ?_
      refine xval (qv_loadB 0 ShpC.h rfl rfl rfl rfl) rfl rfl ?_
      obtain ⟨h9, h⟩ := h
      refine xvalP (pv_addI h9 rfl rfl) rfl rfl ?_
      refine xvalP (pv_nilCheck rfl) rfl rfl ?_
      refine xvalP (qv_fieldAddrB FldC.h rfl) rfl rfl ?_
      refine xstore 0 ShpC.h rfl rfl rfl rfl rfl rfl rfl ?_
      refine xnil ?_
      exact xmeet ⟨(o1.2 + 1), h, rfl⟩ ⟨(.cons rfl (.refl _) (.cons rfl (.refl _) (.nil _))), (SubM.of (.keep rfl rfl (.cons (.tok _ _ _) (.cons (.refl _) .nil)) (.nil _)) (.nil _))⟩
    · replace h := h.2 hp8
      refine xcondF' (b_f hp8) rfl ?_
      refine xskipc ?_
      exact xmeet ⟨o1.2, h, rfl⟩ ⟨(.cons rfl (.refl _) (.cons rfl (.refl _) (.nil _))), (SubM.of (.keep rfl rfl (.cons (.tok _ _ _) (.cons (.refl _) .nil)) (.nil _)) (.nil _))⟩
  · clear h
    rintro _ ⟨f7, h, rfl⟩
    refine xseq ?_
    refine xregion ?_
    refine xvalP (pv_move rfl) rfl rfl ?_
    refine xvalP (pv_move rfl) rfl rfl ?_
    refine xvalP (pv_assign rfl) rfl rfl ?_
    refine xvalP (pv_assign rfl) rfl rfl ?_
    refine xnil ?_
    refine xthen ?_
    refine xretc ?_
    replace h := h.symm
    subst h
    exact xret2 hg rfl rfl (.eq rfl) rfl (.refl _) (SubM.of (.keep rfl rfl (.refl _) (.nil _)) (.nil _)) ⟨rfl, rfl, rfl⟩
/-- (*scan.Cursor).Rest -/
def scan_Cursor_Rest_R (o1 : (List UInt8) × Int) (r : (List UInt8) × ((List UInt8) × Int)) : Prop :=
  ∃ y4 : (List UInt8) × ((List UInt8) × Int), scan_Cursor_while_R (o1.1, o1.2) y4 ∧ ∃ y8 : UInt8 × Bool × ((List UInt8) × Int), scan_Cursor_Next_R (y4.2.1, y4.2.2) y8 ∧ r = (y4.1, y8.2.2)
set_option maxHeartbeats 4000000 in
theorem scan_Cursor_Rest_con (o1 : (List UInt8) × Int) (bx0 : Nat) (ia2 : Option (Nat × Nat)) (r : (List UInt8) × ((List UInt8) × Int)) (h : scan_Cursor_Rest_R o1 r) : Con Try.prog 17 [.v (.pointer (some ⟨bx0, 0, none⟩))] [⟨bx0, 45, [.sl 1 (some ia2) (List.map eb o1.1), .v (.int .i64 o1.2)]⟩] [⟨ia2, 5, 1, o1.1.length⟩] (fun rr bx tk => ∃ j1, rr = .sl 1 (some j1) (List.map eb r.1) ∧ bx = [⟨bx0, 45, [.sl 1 none (List.map eb r.2.1), .v (.int .i64 r.2.2)]⟩] ∧ tk = [⟨j1, 5, 1, r.1.length⟩]) := by
  refine xenter Try.func17 rfl rfl fun g hg => ?_
  simp only [Try.ntmps17, slots]
  refine xseq ?_
  refine xregion ?_
  refine xvalP (pv_assign rfl) rfl rfl ?_
  refine xnil ?_
  refine xthen ?_
  refine xseq ?_
  refine xregion ?_
  refine xvalP (pv_move rfl) rfl rfl ?_
  obtain ⟨y4, h3, h⟩ := h
  refine xcallF (Fb := []) (Ft := []) (scan_Cursor_while_con (o1.1, o1.2) bx0 ia2 _ h3) Try.func27 (by kernel_rfl) rfl (.cons rfl (.refl _) (.cons rfl (.refl _) .nil)) (by exact (SubM.of (by repeat (first | with_reducible exact SubB.refl _ | exact SubB.nil _ | refine SubB.keep rfl rfl (by first | with_reducible exact WkL.refl _ | ((repeat (first | exact WkL.nil | refine WkL.cons (by first | with_reducible exact Wk.refl _ | exact Wk.nil_own _ | exact Wk.nil_pl _ | with_reducible exact Wk.tok _ _ _ | exact Wk.tok _ _ _ | exact Wk.eq (by first | rfl | (simp []; done) | (simp []; omega))) ?_)); done) | exact WkL.refl _) ?_ | refine SubB.drop ?_)) (by repeat (first | exact SubT.nil _ | refine SubT.add ?_ | (refine SubT.keep ?_ ?_; focus (first | with_reducible rfl | (simp []; done))) | refine SubT.drop ?_)))) rfl rfl ?_
  rintro _ _ _ ⟨i5, i6, rfl, rfl, rfl⟩
  simp only [List.nil_append, List.cons_append]
  refine xvalP (pv_assign rfl) rfl rfl ?_
  refine xnil ?_
  refine xthen ?_
  refine xseq ?_
  refine xregion ?_
  refine xvalP (pv_move rfl) rfl rfl ?_
  obtain ⟨y8, h7, h⟩ := h
  refine xcallF (Fb := []) (Ft := [⟨i5, 5, 1, y4.1.length⟩]) (scan_Cursor_Next_con (y4.2.1, y4.2.2) bx0 i6 _ h7) Try.func19 (by kernel_rfl) rfl (.cons rfl (.refl _) .nil) (by refine SubM.trans (SubM.mvT 1 rfl) ?_; (simp only [List.eraseIdx]); exact (SubM.of (by repeat (first | with_reducible exact SubB.refl _ | exact SubB.nil _ | refine SubB.keep rfl rfl (by first | with_reducible exact WkL.refl _ | ((repeat (first | exact WkL.nil | refine WkL.cons (by first | with_reducible exact Wk.refl _ | exact Wk.nil_own _ | exact Wk.nil_pl _ | with_reducible exact Wk.tok _ _ _ | exact Wk.tok _ _ _ | exact Wk.eq (by first | rfl | (simp []; done) | (simp []; omega))) ?_)); done) | exact WkL.refl _) ?_ | refine SubB.drop ?_)) (by repeat (first | exact SubT.nil _ | refine SubT.add ?_ | (refine SubT.keep ?_ ?_; focus (first | with_reducible rfl | (simp []; done))) | refine SubT.drop ?_)))) rfl rfl ?_
  rintro _ _ _ ⟨rfl, rfl, rfl⟩
  simp only [List.nil_append, List.cons_append]
  refine xnil ?_
  refine xthen ?_
  refine xseq ?_
  refine xregion ?_
  refine xvalP (pv_move rfl) rfl rfl ?_
  refine xvalP (pv_assign rfl) rfl rfl ?_
  refine xnil ?_
  refine xthen ?_
  refine xretc ?_
  replace h := h.symm
  subst h
  exact xret1 hg rfl rfl (.refl _) (SubM.of (.keep rfl rfl (.refl _) (.nil _)) (.keep rfl (.nil _))) ⟨i5, rfl, rfl, rfl⟩
/-- (*scan.Cursor).while -/
def scan_Cursor_while_v2_j1 (o1 : (List UInt8) × Int) (f98 : Int) (r : (List UInt8) × ((List UInt8) × Int)) : Prop :=
  (0 ≤ (o1.2 : Int) ∧ (o1.2 : Int) ≤ (f98 : Int) ∧ (f98 : Int) ≤ (o1.1.length : Int)) ∧ ∃ y199 : (List UInt8), slices_Clone_R ((o1.1.take (f98 : Int).toNat).drop (o1.2 : Int).toNat) y199 ∧ r = (y199, (o1.1, f98))
def scan_Cursor_while_v2_l2 (o1 : (List UInt8) × Int) (ag2 : (Int) → Prop) (f130 : Int) (r : (List UInt8) × ((List UInt8) × Int)) : Prop :=
  ((f130 < (o1.1.length : Int) → 0 ≤ (f130 : Int) ∧ ∃ y187 : UInt8, o1.1[(f130 : Int).toNat]? = some y187 ∧ ∃ y190 : Bool, scan_Cursor_Rest_c1_R y187 y190 ∧ ((y190 = true → InR (f130 + 1) ∧ ag2 (f130 + 1)) ∧ (¬ (y190 = true) → scan_Cursor_while_v2_j1 o1 f130 r))) ∧ (¬ (f130 < (o1.1.length : Int)) → scan_Cursor_while_v2_j1 o1 f130 r))
def scan_Cursor_while_v2_R (o1 : (List UInt8) × Int) (r : (List UInt8) × ((List UInt8) × Int)) : Prop :=
  LoopR (fun ag2 s => scan_Cursor_while_v2_l2 o1 ag2 s r) o1.2
set_option maxHeartbeats 4000000 in
theorem scan_Cursor_while_v2_con (o1 : (List UInt8) × Int) (bx0 : Nat) (r : (List UInt8) × ((List UInt8) × Int)) (h : scan_Cursor_while_v2_R o1 r) : Con Try.prog 27 [.v (.pointer (some ⟨bx0, 0, none⟩)), .v (.func (.func 28) #[] #[])] [⟨bx0, 45, [.sl 1 none (List.map eb o1.1), .v (.int .i64 o1.2)]⟩] [] (fun rr bx tk => ∃ j1, rr = .sl 1 (some j1) (List.map eb r.1) ∧ bx = [⟨bx0, 45, [.sl 1 none (List.map eb r.2.1), .v (.int .i64 r.2.2)]⟩] ∧ tk = [⟨j1, 5, 1, r.1.length⟩]) := by
  refine xenter Try.func27 rfl rfl fun g hg => ?_
  simp only [Try.ntmps27, slots]
  refine xseq ?_
  refine xregion ?_
  refine xvalP (pv_assign rfl) rfl rfl ?_
  refine xnil ?_
  refine xthen ?_
  refine xseq ?_
  refine xseq ?_
  refine xregion ?_
  refine xvalP (pv_move rfl) rfl rfl ?_
  refine xvalP (pv_eqNil UndC.h rfl rfl) rfl rfl ?_
  refine xnil ?_
  refine xthen ?_
  refine xcondF rfl ?_
  refine xskipc ?_
  refine xthen ?_
  refine xseq ?_
  refine xregion ?_
  refine xvalP (pv_move rfl) rfl rfl ?_
  refine xvalP (pv_nilCheck rfl) rfl rfl ?_
  refine xvalP (qv_fieldAddrB FldC.h rfl) rfl rfl ?_
  refine xval (qv_loadB 0 ShpC.h rfl rfl rfl rfl) rfl rfl ?_
  refine xvalP (pv_assign rfl) rfl rfl ?_
  refine xnil ?_
  refine xthen ?_
  refine xseqM (fun σ => ∃ (f98 : Int), scan_Cursor_while_v2_j1 o1 f98 r ∧ σ = ⟨[(0, .v (.pointer (some ⟨bx0, 0, none⟩))), (5, .v (.int .i64 o1.2))], [⟨bx0, 45, [.sl 1 none (List.map eb o1.1), .v (.int .i64 f98)]⟩], []⟩) ?_ ?_
  · refine xblock ?_
    obtain ⟨Inv, ⟨m0, hI⟩, hS⟩ := h
    refine xloop (fun σ m => ∃ (f130 : Int), Inv f130 m ∧ σ = ⟨[(0, .v (.pointer (some ⟨bx0, 0, none⟩))), (1, .v (.func (.func 28) #[] #[])), (5, .v (.int .i64 o1.2))], [⟨bx0, 45, [.sl 1 none (List.map eb o1.1), .v (.int .i64 f130)]⟩], []⟩) ⟨o1.2, hI, rfl⟩ ⟨(.cons rfl (.refl _) (.cons rfl (.refl _) (.cons rfl (.refl _) (.nil _)))), (SubM.of (.keep rfl rfl (.refl _) (.nil _)) (.nil _))⟩ ?_
    rintro _ m ⟨f130, hI, rfl⟩
    obtain ⟨ag2, hag2, h⟩ : ∃ ag, (∀ s', ag s' → ∃ m', m' < m ∧ Inv s' m') ∧ scan_Cursor_while_v2_l2 o1 ag f130 r := ⟨_, fun _ h => h, hS f130 _ hI⟩
    clear hS hI
    refine xseq ?_
    refine xseq ?_
    refine xregionD (m := 24) (by kernel_rfl) rfl ?_
    refine xpval 0 rfl (pv_move rfl) rfl rfl (by kernel_rfl) (by kernel_rfl) (by kernel_rfl) (fun _ _ _ _ h => h) ?_
    refine xpval 1 rfl (pv_nilCheck rfl) rfl rfl (by kernel_rfl) (by kernel_rfl) (by kernel_rfl) (fun _ _ _ _ h => h) ?_
    refine xpval 2 rfl (qv_fieldAddrB FldC.h rfl) rfl rfl (by kernel_rfl) (by kernel_rfl) (by kernel_rfl) (fun _ _ _ _ h => h) ?_
    refine xpval 4 rfl (pv_move rfl) rfl rfl (by kernel_rfl) (by kernel_rfl) (by kernel_rfl) (fun _ _ _ _ h => h) ?_
    refine xpval 5 rfl (pv_nilCheck rfl) rfl rfl (by kernel_rfl) (by kernel_rfl) (by kernel_rfl) (fun _ _ _ _ h => h) ?_
    refine xpval 6 rfl (qv_fieldAddrB FldC.h rfl) rfl rfl (by kernel_rfl) (by kernel_rfl) (by kernel_rfl) (fun _ _ _ _ h => h) ?_
    refine xpvalE 3 [7, 8] rfl (qv_loadB 0 ShpC.h rfl rfl rfl rfl) rfl rfl (by kernel_rfl) (by kernel_rfl) (by kernel_rfl) (fun _ _ _ _ h => h) ?_
    refine xpvalE 7 [] rfl (qv_loadB 0 ShpC.h rfl rfl rfl rfl) rfl rfl (by kernel_rfl) (by kernel_rfl) (by kernel_rfl) (fun _ _ _ _ h => h) ?_
    refine xpval 8 rfl (pv_lenM UndC.h rfl) rfl rfl (by kernel_rfl) (by kernel_rfl) (by kernel_rfl) (fun _ _ _ _ h => h) ?_
    refine xpval 9 rfl (pv_bin2 rfl rfl rfl) rfl rfl (by kernel_rfl) (by kernel_rfl) (by kernel_rfl) (fun _ _ _ _ h => h) ?_
    refine xpval 10 rfl (pv_move rfl) rfl rfl (by kernel_rfl) (by kernel_rfl) (by kernel_rfl) (fun _ _ _ _ h => h) ?_
    by_cases hp186 : f130 < (o1.1.length : Int)
    · replace h := h.1 hp186
      refine psetB 22 (decide_eq_true hp186) rfl ?_
      obtain ⟨h188a, h⟩ := h
      obtain ⟨y187, h188b, h⟩ := h
      obtain ⟨y190, h189, h⟩ := h
      refine xpval 11 rfl (pv_move rfl) rfl rfl (by kernel_rfl) (by kernel_rfl) (by kernel_rfl) (fun _ _ _ _ h => h) ?_
      refine xpval 12 rfl (pv_move rfl) rfl rfl (by kernel_rfl) (by kernel_rfl) (by kernel_rfl) (fun _ _ _ _ h => h) ?_
      refine xpval 13 rfl (pv_nilCheck rfl) rfl rfl (by kernel_rfl) (by kernel_rfl) (by kernel_rfl) (fun _ _ _ _ h => h) ?_
      refine xpval 14 rfl (qv_fieldAddrB FldC.h rfl) rfl rfl (by kernel_rfl) (by kernel_rfl) (by kernel_rfl) (fun _ _ _ _ h => h) ?_
      refine xpval 16 rfl (pv_move rfl) rfl rfl (by kernel_rfl) (by kernel_rfl) (by kernel_rfl) (fun _ _ _ _ h => h) ?_
      refine xpval 17 rfl (pv_nilCheck rfl) rfl rfl (by kernel_rfl) (by kernel_rfl) (by kernel_rfl) (fun _ _ _ _ h => h) ?_
      refine xpval 18 rfl (qv_fieldAddrB FldC.h rfl) rfl rfl (by kernel_rfl) (by kernel_rfl) (by kernel_rfl) (fun _ _ _ _ h => h) ?_
      refine xpvalE 15 [19] rfl (qv_loadB 0 ShpC.h rfl rfl rfl rfl) rfl rfl (by kernel_rfl) (by kernel_rfl) (by kernel_rfl) (fun _ _ _ _ h => h) ?_
      refine xpvalE 19 [] rfl (qv_loadB 0 ShpC.h rfl rfl rfl rfl) rfl rfl (by kernel_rfl) (by kernel_rfl) (by kernel_rfl) (fun _ _ _ _ h => h) ?_
      refine xpval 20 rfl (pv_indexAddrM h188a h188b UndC.h ShpC.h rfl rfl) rfl rfl (by kernel_rfl) (by kernel_rfl) (by kernel_rfl) (fun _ _ _ _ h => h) ?_
      refine xpvalE 21 [] rfl (qv_load ShpC.h rfl rfl rfl) rfl rfl (by kernel_rfl) (by kernel_rfl) (by kernel_rfl) (fun _ _ _ _ h => h) ?_
      refine xpstep (i := 22) (by kernel_rfl) rfl ?_
      refine wcallV (sa := [.v (.int .u8 ((y187.toNat : Int)))]) (Fb := [⟨bx0, 45, [.sl 1 none (List.map eb o1.1), .v (.int .i64 f130)]⟩]) (Ft := []) (scan_Cursor_Rest_c1_con y187 _ h189) Try.func28 (by kernel_rfl) rfl rfl (.cons rfl (.refl _) .nil) rfl (by exact (SubM.of (by repeat (first | with_reducible exact SubB.refl _ | exact SubB.nil _ | refine SubB.keep rfl rfl (by first | with_reducible exact WkL.refl _ | ((repeat (first | exact WkL.nil | refine WkL.cons (by first | with_reducible exact Wk.refl _ | exact Wk.nil_own _ | exact Wk.nil_pl _ | with_reducible exact Wk.tok _ _ _ | exact Wk.tok _ _ _ | exact Wk.eq (by first | rfl | (simp []; done) | (simp []; omega))) ?_)); done) | exact WkL.refl _) ?_ | refine SubB.drop ?_)) (by repeat (first | exact SubT.nil _ | refine SubT.add ?_ | (refine SubT.keep ?_ ?_; focus (first | with_reducible rfl | (simp []; done))) | refine SubT.drop ?_)))) rfl rfl ?_
      rintro _ _ _ ⟨rfl, rfl, rfl⟩
      simp only [List.nil_append, List.cons_append]
      refine xpval 23 rfl (pv_pick rfl rfl) rfl rfl (by kernel_rfl) (by kernel_rfl) (by kernel_rfl) (fun _ _ _ _ h => h) ?_
      refine xpdone (by kernel_rfl) ?_
      refine xthen ?_
      by_cases hp191 : y190 = true
      · replace h := h.1 hp191
        refine xcondT' hp191 rfl ?_
        refine xskipc ?_
        refine xthen ?_
        refine xblock ?_
        refine xregion ?_
        refine xvalP (pv_move rfl) rfl rfl ?_
        refine xvalP (pv_nilCheck rfl) rfl rfl ?_
        refine xvalP (qv_fieldAddrB FldC.h rfl) rfl rfl ?_
        refine xval (qv_loadB 0 ShpC.h rfl rfl rfl rfl) rfl rfl ?_
        obtain ⟨h192, h⟩ := h
        refine xvalP (pv_addI h192 rfl rfl) rfl rfl ?_
        refine xvalP (pv_nilCheck rfl) rfl rfl ?_
        refine xvalP (qv_fieldAddrB FldC.h rfl) rfl rfl ?_
        refine xstore 0 ShpC.h rfl rfl rfl rfl rfl rfl rfl ?_
        refine xnil ?_
        refine xin_normal ?_
        obtain ⟨m', hm, hI⟩ := hag2 _ h
        exact xagain ⟨(f130 + 1), hI, rfl⟩ hm ⟨(.cons rfl (.refl _) (.cons rfl (.refl _) (.cons rfl (.refl _) (.nil _)))), (SubM.of (.keep rfl rfl (.refl _) (.nil _)) (.nil _))⟩
      · replace h := h.2 hp191
        refine xcondF' (b_f hp191) rfl ?_
        refine xexit ?_
        refine xthen_exit ?_
        refine xthen_exit ?_
        refine xin_same rfl ?_
        exact xmeet ⟨f130, h, rfl⟩ ⟨(.cons rfl (.refl _) (.cons rfl (.refl _) (.nil _))), (SubM.of (.keep rfl rfl (.refl _) (.nil _)) (.nil _))⟩
    · replace h := h.2 hp186
      refine psetB 22 (decide_eq_false hp186) rfl ?_
      refine xpskip 11 rfl rfl rfl (by kernel_rfl) (by kernel_rfl) (by kernel_rfl) (fun _ _ _ _ h => h) ?_
      refine xpskip 12 rfl rfl rfl (by kernel_rfl) (by kernel_rfl) (by kernel_rfl) (fun _ _ _ _ h => h) ?_
      refine xpskip 13 rfl rfl rfl (by kernel_rfl) (by kernel_rfl) (by kernel_rfl) (fun _ _ _ _ h => h) ?_
      refine xpskip 14 rfl rfl rfl (by kernel_rfl) (by kernel_rfl) (by kernel_rfl) (fun _ _ _ _ h => h) ?_
      refine xpskip 15 rfl rfl rfl (by kernel_rfl) (by kernel_rfl) (by kernel_rfl) (fun _ _ _ _ h => h) ?_
      refine xpskip 16 rfl rfl rfl (by kernel_rfl) (by kernel_rfl) (by kernel_rfl) (fun _ _ _ _ h => h) ?_
      refine xpskip 17 rfl rfl rfl (by kernel_rfl) (by kernel_rfl) (by kernel_rfl) (fun _ _ _ _ h => h) ?_
      refine xpskip 18 rfl rfl rfl (by kernel_rfl) (by kernel_rfl) (by kernel_rfl) (fun _ _ _ _ h => h) ?_
      refine xpskip 19 rfl rfl rfl (by kernel_rfl) (by kernel_rfl) (by kernel_rfl) (fun _ _ _ _ h => h) ?_
      refine xpskip 20 rfl rfl rfl (by kernel_rfl) (by kernel_rfl) (by kernel_rfl) (fun _ _ _ _ h => h) ?_
      refine xpskip 21 rfl rfl rfl (by kernel_rfl) (by kernel_rfl) (by kernel_rfl) (fun _ _ _ _ h => h) ?_
      refine xpskip 22 rfl rfl rfl (by kernel_rfl) (by kernel_rfl) (by kernel_rfl) (fun _ _ _ _ h => h) ?_
      refine xpval 23 rfl (pv_pick rfl rfl) rfl rfl (by kernel_rfl) (by kernel_rfl) (by kernel_rfl) (fun _ _ _ _ h => h) ?_
      refine xpdone (by kernel_rfl) ?_
      refine xthen ?_
      refine xcondF rfl ?_
      refine xexit ?_
      refine xthen_exit ?_
      refine xthen_exit ?_
      refine xin_same rfl ?_
      exact xmeet ⟨f130, h, rfl⟩ ⟨(.cons rfl (.refl _) (.cons rfl (.refl _) (.nil _))), (SubM.of (.keep rfl rfl (.refl _) (.nil _)) (.nil _))⟩
  · clear h
    rintro _ ⟨f98, h, rfl⟩
    refine xseq ?_
    refine xregionD (m := 12) (by kernel_rfl) rfl ?_
    obtain ⟨h197, h⟩ := h
    obtain ⟨y199, h198, h⟩ := h
    refine xpval 0 rfl (pv_move rfl) rfl rfl (by kernel_rfl) (by kernel_rfl) (by kernel_rfl) (fun _ _ _ _ h => h) ?_
    refine xpval 1 rfl (pv_nilCheck rfl) rfl rfl (by kernel_rfl) (by kernel_rfl) (by kernel_rfl) (fun _ _ _ _ h => h) ?_
    refine xpval 2 rfl (qv_fieldAddrB FldC.h rfl) rfl rfl (by kernel_rfl) (by kernel_rfl) (by kernel_rfl) (fun _ _ _ _ h => h) ?_
    refine xpval 4 rfl (pv_move rfl) rfl rfl (by kernel_rfl) (by kernel_rfl) (by kernel_rfl) (fun _ _ _ _ h => h) ?_
    refine xpval 5 rfl (pv_move rfl) rfl rfl (by kernel_rfl) (by kernel_rfl) (by kernel_rfl) (fun _ _ _ _ h => h) ?_
    refine xpval 6 rfl (pv_nilCheck rfl) rfl rfl (by kernel_rfl) (by kernel_rfl) (by kernel_rfl) (fun _ _ _ _ h => h) ?_
    refine xpval 7 rfl (qv_fieldAddrB FldC.h rfl) rfl rfl (by kernel_rfl) (by kernel_rfl) (by kernel_rfl) (fun _ _ _ _ h => h) ?_
    refine xpvalE 3 [8] rfl (qv_loadB 0 ShpC.h rfl rfl rfl rfl) rfl rfl (by kernel_rfl) (by kernel_rfl) (by kernel_rfl) (fun _ _ _ _ h => h) ?_
    refine xpvalE 8 [] rfl (qv_loadB 0 ShpC.h rfl rfl rfl rfl) rfl rfl (by kernel_rfl) (by kernel_rfl) (by kernel_rfl) (fun _ _ _ _ h => h) ?_
    refine xpval 9 rfl (pv_sliceLH h197 UndC.h ShpC.h rfl rfl rfl) rfl rfl (by kernel_rfl) (by kernel_rfl) (by kernel_rfl) (fun _ _ _ _ h => h) ?_
    refine xpstep (i := 10) (by kernel_rfl) rfl ?_
    refine wcallM (slices_Clone_con ((o1.1.take (f98 : Int).toNat).drop (o1.2 : Int).toNat) _ h198) Try.func23 (by kernel_rfl) rfl (.cons rfl (.refl _) .nil) rfl rfl fun i200 => ?_
    refine xpval 11 rfl (pv_assign rfl) rfl rfl (by kernel_rfl) (by kernel_rfl) (by kernel_rfl) (fun _ _ _ _ h => h) ?_
    refine xpdone (by kernel_rfl) ?_
    refine xthen ?_
    refine xretc ?_
    replace h := h.symm
    subst h
    exact xret1 hg rfl rfl (.refl _) (SubM.of (.keep rfl rfl (.refl _) (.nil _)) (.keep rfl (.nil _))) ⟨i200, rfl, rfl, rfl⟩
/-- (*scan.Cursor).Peek -/
def scan_Cursor_Peek_v2_R (o1 : (List UInt8) × Int) (r : UInt8 × Bool) : Prop :=
  ((o1.2 = (o1.1.length : Int) → r = ((0 : UInt8), false)) ∧ (¬ (o1.2 = (o1.1.length : Int)) → 0 ≤ (o1.2 : Int) ∧ ∃ y18 : UInt8, o1.1[(o1.2 : Int).toNat]? = some y18 ∧ r = (y18, true)))
set_option maxHeartbeats 4000000 in
theorem scan_Cursor_Peek_v2_con (o1 : (List UInt8) × Int) (bx0 : Nat) (r : UInt8 × Bool) (h : scan_Cursor_Peek_v2_R o1 r) : Con Try.prog 18 [.v (.pointer (some ⟨bx0, 0, none⟩))] [⟨bx0, 45, [.sl 1 none (List.map eb o1.1), .v (.int .i64 o1.2)]⟩] [] (fun rr bx tk => rr = .tup [.v (.int .u8 ((r.1.toNat : Int))), .v (.bool r.2)] ∧ bx = [⟨bx0, 45, [.sl 1 none (List.map eb o1.1), .v (.int .i64 o1.2)]⟩] ∧ tk = []) := by
  refine xenter Try.func18 rfl rfl fun g hg => ?_
  simp only [Try.ntmps18, slots]
  refine xseq ?_
  refine xregion ?_
  refine xvalP (pv_assign rfl) rfl rfl ?_
  refine xvalP (pv_assign rfl) rfl rfl ?_
  refine xnil ?_
  refine xthen ?_
  refine xseq ?_
  refine xseq ?_
  refine xregionD (m := 14) (by kernel_rfl) rfl ?_
  refine xpval 0 rfl (pv_move rfl) rfl rfl (by kernel_rfl) (by kernel_rfl) (by kernel_rfl) (fun _ _ _ _ h => h) ?_
  refine xpval 1 rfl (pv_eqNil UndC.h rfl rfl) rfl rfl (by kernel_rfl) (by kernel_rfl) (by kernel_rfl) (fun _ _ _ _ h => h) ?_
  refine xpval 2 rfl (pv_move rfl) rfl rfl (by kernel_rfl) (by kernel_rfl) (by kernel_rfl) (fun _ _ _ _ h => h) ?_
  refine xpval 3 rfl (pv_move rfl) rfl rfl (by kernel_rfl) (by kernel_rfl) (by kernel_rfl) (fun _ _ _ _ h => h) ?_
  refine xpval 4 rfl (pv_nilCheck rfl) rfl rfl (by kernel_rfl) (by kernel_rfl) (by kernel_rfl) (fun _ _ _ _ h => h) ?_
  refine xpval 5 rfl (qv_fieldAddrB FldC.h rfl) rfl rfl (by kernel_rfl) (by kernel_rfl) (by kernel_rfl) (fun _ _ _ _ h => h) ?_
  refine xpval 7 rfl (pv_move rfl) rfl rfl (by kernel_rfl) (by kernel_rfl) (by kernel_rfl) (fun _ _ _ _ h => h) ?_
  refine xpval 8 rfl (pv_nilCheck rfl) rfl rfl (by kernel_rfl) (by kernel_rfl) (by kernel_rfl) (fun _ _ _ _ h => h) ?_
  refine xpval 9 rfl (qv_fieldAddrB FldC.h rfl) rfl rfl (by kernel_rfl) (by kernel_rfl) (by kernel_rfl) (fun _ _ _ _ h => h) ?_
  refine xpvalE 6 [10, 11] rfl (qv_loadB 0 ShpC.h rfl rfl rfl rfl) rfl rfl (by kernel_rfl) (by kernel_rfl) (by kernel_rfl) (fun _ _ _ _ h => h) ?_
  refine xpvalE 10 [] rfl (qv_loadB 0 ShpC.h rfl rfl rfl rfl) rfl rfl (by kernel_rfl) (by kernel_rfl) (by kernel_rfl) (fun _ _ _ _ h => h) ?_
  refine xpval 11 rfl (pv_lenM UndC.h rfl) rfl rfl (by kernel_rfl) (by kernel_rfl) (by kernel_rfl) (fun _ _ _ _ h => h) ?_
  refine xpval 12 rfl (pv_bin2 rfl rfl rfl) rfl rfl (by kernel_rfl) (by kernel_rfl) (by kernel_rfl) (fun _ _ _ _ h => h) ?_
  refine xpval 13 rfl (pv_pick rfl rfl) rfl rfl (by kernel_rfl) (by kernel_rfl) (by kernel_rfl) (fun _ _ _ _ h => h) ?_
  refine xpdone (by kernel_rfl) ?_
  refine xthen ?_
  by_cases hp15 : o1.2 = (o1.1.length : Int)
  · replace h := h.1 hp15
    refine xcondT' (decide_eq_true hp15) rfl ?_
    refine xseq ?_
    refine xregion ?_
    refine xvalP (pv_assign rfl) rfl rfl ?_
    refine xvalP (pv_assign rfl) rfl rfl ?_
    refine xnil ?_
    refine xthen ?_
    refine xretc ?_
    refine xthen_ret ?_
    replace h := h.symm
    subst h
    exact xret2 hg rfl rfl (.eq rfl) rfl (.refl _) (SubM.of (.keep rfl rfl (.refl _) (.nil _)) (.nil _)) ⟨rfl, rfl, rfl⟩
  · replace h := h.2 hp15
    refine xcondF' (decide_eq_false hp15) rfl ?_
    refine xskipc ?_
    refine xthen ?_
    refine xseq ?_
    refine xregionD (m := 12) (by kernel_rfl) rfl ?_
    obtain ⟨h19a, h⟩ := h
    obtain ⟨y18, h19b, h⟩ := h
    refine xpval 0 rfl (pv_move rfl) rfl rfl (by kernel_rfl) (by kernel_rfl) (by kernel_rfl) (fun _ _ _ _ h => h) ?_
    refine xpval 1 rfl (pv_nilCheck rfl) rfl rfl (by kernel_rfl) (by kernel_rfl) (by kernel_rfl) (fun _ _ _ _ h => h) ?_
    refine xpval 2 rfl (qv_fieldAddrB FldC.h rfl) rfl rfl (by kernel_rfl) (by kernel_rfl) (by kernel_rfl) (fun _ _ _ _ h => h) ?_
    refine xpval 4 rfl (pv_move rfl) rfl rfl (by kernel_rfl) (by kernel_rfl) (by kernel_rfl) (fun _ _ _ _ h => h) ?_
    refine xpval 5 rfl (pv_nilCheck rfl) rfl rfl (by kernel_rfl) (by kernel_rfl) (by kernel_rfl) (fun _ _ _ _ h => h) ?_
    refine xpval 6 rfl (qv_fieldAddrB FldC.h rfl) rfl rfl (by kernel_rfl) (by kernel_rfl) (by kernel_rfl) (fun _ _ _ _ h => h) ?_
    refine xpvalE 3 [7] rfl (qv_loadB 0 ShpC.h rfl rfl rfl rfl) rfl rfl (by kernel_rfl) (by kernel_rfl) (by kernel_rfl) (fun _ _ _ _ h => h) ?_
    refine xpvalE 7 [] rfl (qv_loadB 0 ShpC.h rfl rfl rfl rfl) rfl rfl (by kernel_rfl) (by kernel_rfl) (by kernel_rfl) (fun _ _ _ _ h => h) ?_
    refine xpval 8 rfl (pv_indexAddrM h19a h19b UndC.h ShpC.h rfl rfl) rfl rfl (by kernel_rfl) (by kernel_rfl) (by kernel_rfl) (fun _ _ _ _ h => h) ?_
    refine xpvalE 9 [] rfl (qv_load ShpC.h rfl rfl rfl) rfl rfl (by kernel_rfl) (by kernel_rfl) (by kernel_rfl) (fun _ _ _ _ h => h) ?_
    refine xpval 10 rfl (pv_assign rfl) rfl rfl (by kernel_rfl) (by kernel_rfl) (by kernel_rfl) (fun _ _ _ _ h => h) ?_
    refine xpval 11 rfl (pv_assign rfl) rfl rfl (by kernel_rfl) (by kernel_rfl) (by kernel_rfl) (fun _ _ _ _ h => h) ?_
    refine xpdone (by kernel_rfl) ?_
    refine xthen ?_
    refine xretc ?_
    replace h := h.symm
    subst h
    exact xret2 hg rfl rfl (.eq rfl) rfl (.refl _) (SubM.of (.keep rfl rfl (.refl _) (.nil _)) (.nil _)) ⟨rfl, rfl, rfl⟩
end Go.Proofs.Ytfngfgiikpofgaa
